/- Walks and their mathematics, merged. No conditions beyond those written. -/
import Derived.Test.YtfffibpckjjnfaaWmPhragmenSupports2
/- Walks of the reference: adding, subtracting, multiplying. -/
namespace Go.Proofs.Wk
open Go.RowKit
set_option maxRecDepth 100000
attribute [local irreducible] Pw OpG
set_option linter.unusedVariables false
set_option linter.unusedSimpArgs false
/-- A slice that grows: nothing yet, or a row of one's own. -/
def grV (o : Option (Nat × Nat × List Value)) (m : Nat) : Value := match o with | none => .slice none 0 0 | some (g, cap, _) => .slice (some ⟨g, 0, none⟩) m cap
def grL (o : Option (Nat × Nat × List Value)) (out : List Int) : List Blk := match o with | none => [] | some (g, _, ex) => [⟨g, row (out.map (Value.int .u32) ++ ex) 107⟩]
def grJ (o : Option (Nat × Nat × List Value)) (out : List Int) : Prop := match o with | none => out = [] | some (_, cap, ex) => out.length ≤ cap ∧ (out.map (Value.int .u32) ++ ex).length = cap * 1
theorem rtrim_more : ∀ (k : Nat) (l : List Int) (n : Int) (r : List Int), psephosref01_trim.l0 k l n = some r → psephosref01_trim.l0 (k + 1) l n = some r
  | 0, l, n, r, h => by cases h
  | k + 1, l, n, r, h => by
    unfold psephosref01_trim.l0 at h ⊢
    split at h
    next c1 =>
      rw [if_pos c1]
      obtain ⟨c2, h⟩ := ite_none h
      obtain ⟨c3, h⟩ := ite_none h
      rw [if_pos c2, if_pos c3]
      split at h
      next c4 => rw [if_pos c4]; exact rtrim_more k _ _ r h
      next c4 => rw [if_neg c4]; exact h
    next c1 => rw [if_neg c1]; exact h
theorem rtrim_some {k : Nat} {l r : List Int} (hl : l.length < 1099511627776) (h : psephosref01_trim.f k l = some r) : r = trimL l := by
  have h1 : ∀ j, psephosref01_trim.l0 (k + j) l (l.length : Int) = some r := fun j => by
    induction j with
    | zero => exact h
    | succ j ih => exact rtrim_more _ _ _ _ ih
  have h2 := rtrim_ev hl (k := k + (l.length + 1)) (by omega)
  unfold psephosref01_trim.f at h2
  rw [h1] at h2
  exact Option.some.inj h2
theorem radd_ev {a b : List Int} (ha : Lm a) (hb : Lm b) (hal : a.length < 549755813888) (hbl : b.length < 549755813888) {k : Nat} (hk : 3 * a.length + 3 * b.length + 10 < k) : psephosref01_add.f k a b = some (natL (val a + val b)) :=
  radd_loop ha hb hal hbl (a.length + b.length + 1) 0 k [] 0 (by omega) (by omega) (.inl rfl) rfl (fun x h => by cases h) (by omega) (by omega) (by simp [val]) (by omega)
theorem radd_ct (a b : List Int) (x y : Option Addr × Nat) (ha : Lm a) (hb : Lm b) (hl : a.length < 1048576) (hl' : b.length < 1048576) :
    Ct Try.prog 70 #[sl a x, sl b y] (fun W => S1 a x W ∧ S1 b y W) (fun z : Option Addr × Nat => sl (natL (val a + val b)) z) Tt (fun z => S1 (natL (val a + val b)) z) := by
  obtain ⟨A, c⟩ := x
  obtain ⟨B, d⟩ := y
  have h := radd_ev ha hb (by omega) (by omega) (Nat.lt_succ_self _)
  generalize natL (val a + val b) = r at h
  unfold psephosref01_add.f at h
  refine Ct.start Try.func70 rfl rfl (slots_of rfl slots2) (fun D w0 => Pw.facts two2 ?_)
  repeat (first | (with_reducible first | refine Pw.seq ?_ | refine Pw.region ?_ | refine Pw.nil ?_ | refine Pw.then_ ?_ | refine Pw.skip ?_ | refine Pw.block ?_ | refine Pw.exit ?_ | refine Pw.inX ?_ | refine Pw.inN ?_ | refine Pw.inR ?_ | refine Pw.thenX ?_ | refine Pw.thenR ?_ | refine Pw.ret ?_) | refine Pw.list (Pw.pure rfl rfl rfl ?_) | refine Pw.inY rfl ?_ | refine Pw.list (Pw.off rfl rfl ?_) | refine Pw.condT rfl ?_ | refine Pw.condF rfl ?_)
  refine Pw.loopJ (σ := Nat × Option (Nat × Nat × List Value) × List Int × Int × Int) (fun s => psephosref01_add.l0 s.1 a b s.2.2.1 s.2.2.2.1 s.2.2.2.2 = some r ∧ grJ s.2.1 s.2.2.1 ∧ s.2.2.1.length + s.1 ≤ 3 * a.length + 3 * b.length + 12) (fun s => ⟨[(0, .slice A a.length c), (1, .slice B b.length d), (5, grV s.2.1 s.2.2.1.length), (6, .int .u64 s.2.2.2.1), (7, .int .i64 s.2.2.2.2)], grL s.2.1 s.2.2.1, [Ints .u32 a A c, Ints .u32 b B d]⟩) (fun s => s.1) (_, none, _, _, _) ⟨h, rfl, by show 0 + _ ≤ _; omega⟩ (Pw.enter ⟨rfl, rfl, rfl, rfl, rfl, trivial⟩ (fun _ h => h)) ?_
  clear h
  rintro ⟨k, o, out, carry, i⟩ ⟨h, ho, hk⟩
  dsimp only at h ho hk ⊢
  obtain _ | k := k
  · cases h
  simp only [psephosref01_add.l0] at h
  refine Pw.seq (Pw.seq ?_)
  refine Pw.join (σ := Bool) (fun t => psephosref01_add.j1 k a b out carry i t = some r) (fun t => ⟨[(0, .slice A a.length c), (1, .slice B b.length d), (5, grV o out.length), (6, .int .u64 carry), (7, .int .i64 i), (21, .bool t)], grL o out, [Ints .u32 a A c, Ints .u32 b B d]⟩) ?_ ?_
  · repeat (first | (with_reducible first | refine Pw.seq ?_ | refine Pw.region ?_ | refine Pw.nil ?_ | refine Pw.then_ ?_ | refine Pw.skip ?_ | refine Pw.block ?_ | refine Pw.exit ?_ | refine Pw.inX ?_ | refine Pw.inN ?_ | refine Pw.inR ?_ | refine Pw.thenX ?_ | refine Pw.thenR ?_ | refine Pw.ret ?_) | refine Pw.list (Pw.pure rfl rfl rfl ?_) | refine Pw.inY rfl ?_ | refine Pw.list (Pw.off rfl rfl ?_) | refine Pw.condT rfl ?_ | refine Pw.condF rfl ?_)
    refine Pw.split 12 rfl (fun c1 => ?_) (fun c1 => ?_)
    · rw [if_pos c1] at h
      repeat (first | (with_reducible first | refine Pw.seq ?_ | refine Pw.region ?_ | refine Pw.nil ?_ | refine Pw.then_ ?_ | refine Pw.skip ?_ | refine Pw.block ?_ | refine Pw.exit ?_ | refine Pw.inX ?_ | refine Pw.inN ?_ | refine Pw.inR ?_ | refine Pw.thenX ?_ | refine Pw.thenR ?_ | refine Pw.ret ?_) | refine Pw.list (Pw.pure rfl rfl rfl ?_) | refine Pw.inY rfl ?_ | refine Pw.list (Pw.off rfl rfl ?_) | refine Pw.condT rfl ?_ | refine Pw.condF rfl ?_)
      exact Pw.arrive true h ⟨rfl, rfl, rfl, rfl, rfl, rfl, trivial⟩ rfl (fun w h => h)
    · rw [if_neg c1] at h
      repeat (first | (with_reducible first | refine Pw.seq ?_ | refine Pw.region ?_ | refine Pw.nil ?_ | refine Pw.then_ ?_ | refine Pw.skip ?_ | refine Pw.block ?_ | refine Pw.exit ?_ | refine Pw.inX ?_ | refine Pw.inN ?_ | refine Pw.inR ?_ | refine Pw.thenX ?_ | refine Pw.thenR ?_ | refine Pw.ret ?_) | refine Pw.list (Pw.pure rfl rfl rfl ?_) | refine Pw.inY rfl ?_ | refine Pw.list (Pw.off rfl rfl ?_) | refine Pw.condT rfl ?_ | refine Pw.condF rfl ?_)
      refine Pw.split 18 rfl (fun c2 => ?_) (fun c2 => ?_)
      · rw [if_pos c2] at h
        repeat (first | (with_reducible first | refine Pw.seq ?_ | refine Pw.region ?_ | refine Pw.nil ?_ | refine Pw.then_ ?_ | refine Pw.skip ?_ | refine Pw.block ?_ | refine Pw.exit ?_ | refine Pw.inX ?_ | refine Pw.inN ?_ | refine Pw.inR ?_ | refine Pw.thenX ?_ | refine Pw.thenR ?_ | refine Pw.ret ?_) | refine Pw.list (Pw.pure rfl rfl rfl ?_) | refine Pw.inY rfl ?_ | refine Pw.list (Pw.off rfl rfl ?_) | refine Pw.condT rfl ?_ | refine Pw.condF rfl ?_)
        exact Pw.arrive true h ⟨rfl, rfl, rfl, rfl, rfl, rfl, trivial⟩ rfl (fun w h => h)
      · rw [if_neg c2] at h
        repeat (first | (with_reducible first | refine Pw.seq ?_ | refine Pw.region ?_ | refine Pw.nil ?_ | refine Pw.then_ ?_ | refine Pw.skip ?_ | refine Pw.block ?_ | refine Pw.exit ?_ | refine Pw.inX ?_ | refine Pw.inN ?_ | refine Pw.inR ?_ | refine Pw.thenX ?_ | refine Pw.thenR ?_ | refine Pw.ret ?_) | refine Pw.list (Pw.pure rfl rfl rfl ?_) | refine Pw.inY rfl ?_ | refine Pw.list (Pw.off rfl rfl ?_) | refine Pw.condT rfl ?_ | refine Pw.condF rfl ?_)
        exact Pw.arrive _ h ⟨rfl, rfl, rfl, rfl, rfl, rfl, trivial⟩ rfl (fun w h => h)
  clear h
  intro t h
  dsimp only at h ⊢
  obtain _ | k := k
  · cases h
  simp only [psephosref01_add.j1] at h
  refine Pw.condB rfl (fun ht => ?_) (fun ht => ?_)
  · rw [if_pos ht] at h
    repeat (first | (with_reducible first | refine Pw.seq ?_ | refine Pw.region ?_ | refine Pw.nil ?_ | refine Pw.then_ ?_ | refine Pw.skip ?_ | refine Pw.block ?_ | refine Pw.exit ?_ | refine Pw.inX ?_ | refine Pw.inN ?_ | refine Pw.inR ?_ | refine Pw.thenX ?_ | refine Pw.thenR ?_ | refine Pw.ret ?_) | refine Pw.list (Pw.pure rfl rfl rfl ?_) | refine Pw.inY rfl ?_ | refine Pw.list (Pw.off rfl rfl ?_) | refine Pw.condT rfl ?_ | refine Pw.condF rfl ?_)
    refine Pw.condD rfl (fun c1 => ?_) (fun c1 => ?_)
    · rw [if_pos c1] at h
      obtain ⟨c2, h⟩ := ite_none h
      repeat (first | (with_reducible first | refine Pw.seq ?_ | refine Pw.region ?_ | refine Pw.nil ?_ | refine Pw.then_ ?_ | refine Pw.skip ?_ | refine Pw.block ?_ | refine Pw.exit ?_ | refine Pw.inX ?_ | refine Pw.inN ?_ | refine Pw.inR ?_ | refine Pw.thenX ?_ | refine Pw.thenR ?_ | refine Pw.ret ?_) | refine Pw.list (Pw.pure rfl rfl rfl ?_) | refine Pw.inY rfl ?_ | refine Pw.list (Pw.off rfl rfl ?_) | refine Pw.condT rfl ?_ | refine Pw.condF rfl ?_)
      refine Pw.list (Pw.index rfl rfl rfl rfl c2 c1 (fun w h => (fact0 h).has c2 c1) rfl rfl ?_)
      rintro ad rfl
      refine Pw.list (Pw.load1 rfl rfl (fun w hs => by first | exact (fact0 hs.all).cell (by first | assumption | omega) (by first | assumption | omega) | exact (fact1 hs.all).cell (by first | assumption | omega) (by first | assumption | omega) | exact (fact2 hs.all).cell (by first | assumption | omega) (by first | assumption | omega) | exact (fact3 hs.all).cell (by first | assumption | omega) (by first | assumption | omega)) rfl rfl ?_)
      repeat (first | (with_reducible first | refine Pw.seq ?_ | refine Pw.region ?_ | refine Pw.nil ?_ | refine Pw.then_ ?_ | refine Pw.skip ?_ | refine Pw.block ?_ | refine Pw.exit ?_ | refine Pw.inX ?_ | refine Pw.inN ?_ | refine Pw.inR ?_ | refine Pw.thenX ?_ | refine Pw.thenR ?_ | refine Pw.ret ?_) | refine Pw.list (Pw.pure rfl rfl rfl ?_) | refine Pw.inY rfl ?_ | refine Pw.list (Pw.off rfl rfl ?_) | refine Pw.condT rfl ?_ | refine Pw.condF rfl ?_)
      refine Pw.condD rfl (fun c3 => ?_) (fun c3 => ?_)
      · rw [if_pos c3] at h
        repeat (first | (with_reducible first | refine Pw.seq ?_ | refine Pw.region ?_ | refine Pw.nil ?_ | refine Pw.then_ ?_ | refine Pw.skip ?_ | refine Pw.block ?_ | refine Pw.exit ?_ | refine Pw.inX ?_ | refine Pw.inN ?_ | refine Pw.inR ?_ | refine Pw.thenX ?_ | refine Pw.thenR ?_ | refine Pw.ret ?_) | refine Pw.list (Pw.pure rfl rfl rfl ?_) | refine Pw.inY rfl ?_ | refine Pw.list (Pw.off rfl rfl ?_) | refine Pw.condT rfl ?_ | refine Pw.condF rfl ?_)
        refine Pw.list (Pw.index rfl rfl rfl rfl c2 c3 (fun w h => (fact1 h).has c2 c3) rfl rfl ?_)
        rintro bd rfl
        refine Pw.list (Pw.load1 rfl rfl (fun w hs => by first | exact (fact0 hs.all).cell (by first | assumption | omega) (by first | assumption | omega) | exact (fact1 hs.all).cell (by first | assumption | omega) (by first | assumption | omega) | exact (fact2 hs.all).cell (by first | assumption | omega) (by first | assumption | omega) | exact (fact3 hs.all).cell (by first | assumption | omega) (by first | assumption | omega)) rfl rfl ?_)
        obtain ⟨d1, h⟩ := ite_none h
        repeat (first | (with_reducible first | refine Pw.seq ?_ | refine Pw.region ?_ | refine Pw.nil ?_ | refine Pw.then_ ?_ | refine Pw.skip ?_ | refine Pw.block ?_ | refine Pw.exit ?_ | refine Pw.inX ?_ | refine Pw.inN ?_ | refine Pw.inR ?_ | refine Pw.thenX ?_ | refine Pw.thenR ?_ | refine Pw.ret ?_) | refine Pw.list (Pw.pure rfl rfl rfl ?_) | refine Pw.inY rfl ?_ | refine Pw.list (Pw.off rfl rfl ?_) | refine Pw.condT rfl ?_ | refine Pw.condF rfl ?_)
        refine Pw.list (Pw.lit1 rfl rfl rfl rfl rfl rfl rfl rfl rfl (fun g1 => freeHead ?_))
        obtain _ | ⟨g, cap, ex⟩ := o
        · obtain rfl : out = [] := ho
          refine Pw.list (Pw.appendNil (news := [.int .u32 _]) rfl rfl rfl rfl rfl rfl rfl (fun w hs j u hu => by
            have h1 := fact0 hs.all
            rw [add_none, cell_of_blk h1]
            simpa using hu) (by omega) (by simp [maxLen]) (by show 1 * 4 ≤ _; omega) rfl rfl (fun g cap ex h1 h2 => ?_))
          repeat (first | (with_reducible first | refine Pw.seq ?_ | refine Pw.region ?_ | refine Pw.nil ?_ | refine Pw.then_ ?_ | refine Pw.skip ?_ | refine Pw.block ?_ | refine Pw.exit ?_ | refine Pw.inX ?_ | refine Pw.inN ?_ | refine Pw.inR ?_ | refine Pw.thenX ?_ | refine Pw.thenR ?_ | refine Pw.ret ?_) | refine Pw.list (Pw.pure rfl rfl rfl ?_) | refine Pw.inY rfl ?_ | refine Pw.list (Pw.off rfl rfl ?_) | refine Pw.condT rfl ?_ | refine Pw.condF rfl ?_)
          exact Pw.again (k, some (g, cap, ex), [_], _, _) ⟨h, ⟨h1, h2⟩, by simp only [List.length_nil, List.length_cons] at hk ⊢; omega⟩ (by show k < k + 2; omega) ⟨rfl, rfl, rfl, rfl, rfl, trivial⟩ rfl (fun w h => allTail h)
        · obtain ⟨o1, o2⟩ := ho
          refine Pw.list (Pw.append (olds := out.map (Value.int .u32)) (ex := ex) (news := [.int .u32 _]) (L' := fun g' ex' => [⟨g', row (out.map (Value.int .u32) ++ [_] ++ ex') 107⟩]) rfl rfl rfl rfl rfl rfl (by rw [List.length_map]; exact (Nat.mul_one _).symm) o2 rfl (fun u hu => by rw [List.mem_singleton.1 hu]; rfl) (fun w hs j u hu => by
            have h1 := fact0 hs.all
            rw [add_none, cell_of_blk h1]
            simpa using hu) (by simp only [maxLen]; omega) (by show (out.length + 1) * 4 ≤ _; omega) (fun g' ex' => .head) rfl rfl (fun g cap ex h1 h2 => ?_))
          repeat (first | (with_reducible first | refine Pw.seq ?_ | refine Pw.region ?_ | refine Pw.nil ?_ | refine Pw.then_ ?_ | refine Pw.skip ?_ | refine Pw.block ?_ | refine Pw.exit ?_ | refine Pw.inX ?_ | refine Pw.inN ?_ | refine Pw.inR ?_ | refine Pw.thenX ?_ | refine Pw.thenR ?_ | refine Pw.ret ?_) | refine Pw.list (Pw.pure rfl rfl rfl ?_) | refine Pw.inY rfl ?_ | refine Pw.list (Pw.off rfl rfl ?_) | refine Pw.condT rfl ?_ | refine Pw.condF rfl ?_)
          have e : ∀ v : Int, (out ++ [v]).length = out.length + 1 := fun v => by rw [List.length_append]; rfl
          exact Pw.again (k, some (g, cap, ex), out ++ [_], _, _) ⟨h, ⟨by rw [e]; exact h1, by rw [List.map_append]; exact h2⟩, by rw [e]; omega⟩ (by show k < k + 2; omega) ⟨rfl, rfl, by rw [e]; rfl, rfl, rfl, trivial⟩ (by simp [grL]) (fun w h => allTail h)
      · rw [if_neg c3] at h
        obtain ⟨d1, h⟩ := ite_none h
        repeat (first | (with_reducible first | refine Pw.seq ?_ | refine Pw.region ?_ | refine Pw.nil ?_ | refine Pw.then_ ?_ | refine Pw.skip ?_ | refine Pw.block ?_ | refine Pw.exit ?_ | refine Pw.inX ?_ | refine Pw.inN ?_ | refine Pw.inR ?_ | refine Pw.thenX ?_ | refine Pw.thenR ?_ | refine Pw.ret ?_) | refine Pw.list (Pw.pure rfl rfl rfl ?_) | refine Pw.inY rfl ?_ | refine Pw.list (Pw.off rfl rfl ?_) | refine Pw.condT rfl ?_ | refine Pw.condF rfl ?_)
        refine Pw.list (Pw.lit1 rfl rfl rfl rfl rfl rfl rfl rfl rfl (fun g1 => freeHead ?_))
        obtain _ | ⟨g, cap, ex⟩ := o
        · obtain rfl : out = [] := ho
          refine Pw.list (Pw.appendNil (news := [.int .u32 _]) rfl rfl rfl rfl rfl rfl rfl (fun w hs j u hu => by
            have h1 := fact0 hs.all
            rw [add_none, cell_of_blk h1]
            simpa using hu) (by omega) (by simp [maxLen]) (by show 1 * 4 ≤ _; omega) rfl rfl (fun g cap ex h1 h2 => ?_))
          repeat (first | (with_reducible first | refine Pw.seq ?_ | refine Pw.region ?_ | refine Pw.nil ?_ | refine Pw.then_ ?_ | refine Pw.skip ?_ | refine Pw.block ?_ | refine Pw.exit ?_ | refine Pw.inX ?_ | refine Pw.inN ?_ | refine Pw.inR ?_ | refine Pw.thenX ?_ | refine Pw.thenR ?_ | refine Pw.ret ?_) | refine Pw.list (Pw.pure rfl rfl rfl ?_) | refine Pw.inY rfl ?_ | refine Pw.list (Pw.off rfl rfl ?_) | refine Pw.condT rfl ?_ | refine Pw.condF rfl ?_)
          exact Pw.again (k, some (g, cap, ex), [_], _, _) ⟨h, ⟨h1, h2⟩, by simp only [List.length_nil, List.length_cons] at hk ⊢; omega⟩ (by show k < k + 2; omega) ⟨rfl, rfl, rfl, rfl, rfl, trivial⟩ rfl (fun w h => allTail h)
        · obtain ⟨o1, o2⟩ := ho
          refine Pw.list (Pw.append (olds := out.map (Value.int .u32)) (ex := ex) (news := [.int .u32 _]) (L' := fun g' ex' => [⟨g', row (out.map (Value.int .u32) ++ [_] ++ ex') 107⟩]) rfl rfl rfl rfl rfl rfl (by rw [List.length_map]; exact (Nat.mul_one _).symm) o2 rfl (fun u hu => by rw [List.mem_singleton.1 hu]; rfl) (fun w hs j u hu => by
            have h1 := fact0 hs.all
            rw [add_none, cell_of_blk h1]
            simpa using hu) (by simp only [maxLen]; omega) (by show (out.length + 1) * 4 ≤ _; omega) (fun g' ex' => .head) rfl rfl (fun g cap ex h1 h2 => ?_))
          repeat (first | (with_reducible first | refine Pw.seq ?_ | refine Pw.region ?_ | refine Pw.nil ?_ | refine Pw.then_ ?_ | refine Pw.skip ?_ | refine Pw.block ?_ | refine Pw.exit ?_ | refine Pw.inX ?_ | refine Pw.inN ?_ | refine Pw.inR ?_ | refine Pw.thenX ?_ | refine Pw.thenR ?_ | refine Pw.ret ?_) | refine Pw.list (Pw.pure rfl rfl rfl ?_) | refine Pw.inY rfl ?_ | refine Pw.list (Pw.off rfl rfl ?_) | refine Pw.condT rfl ?_ | refine Pw.condF rfl ?_)
          have e : ∀ v : Int, (out ++ [v]).length = out.length + 1 := fun v => by rw [List.length_append]; rfl
          exact Pw.again (k, some (g, cap, ex), out ++ [_], _, _) ⟨h, ⟨by rw [e]; exact h1, by rw [List.map_append]; exact h2⟩, by rw [e]; omega⟩ (by show k < k + 2; omega) ⟨rfl, rfl, by rw [e]; rfl, rfl, rfl, trivial⟩ (by simp [grL]) (fun w h => allTail h)
    · rw [if_neg c1] at h
      repeat (first | (with_reducible first | refine Pw.seq ?_ | refine Pw.region ?_ | refine Pw.nil ?_ | refine Pw.then_ ?_ | refine Pw.skip ?_ | refine Pw.block ?_ | refine Pw.exit ?_ | refine Pw.inX ?_ | refine Pw.inN ?_ | refine Pw.inR ?_ | refine Pw.thenX ?_ | refine Pw.thenR ?_ | refine Pw.ret ?_) | refine Pw.list (Pw.pure rfl rfl rfl ?_) | refine Pw.inY rfl ?_ | refine Pw.list (Pw.off rfl rfl ?_) | refine Pw.condT rfl ?_ | refine Pw.condF rfl ?_)
      refine Pw.condD rfl (fun c3 => ?_) (fun c3 => ?_)
      · rw [if_pos c3] at h
        obtain ⟨c2, h⟩ := ite_none h
        repeat (first | (with_reducible first | refine Pw.seq ?_ | refine Pw.region ?_ | refine Pw.nil ?_ | refine Pw.then_ ?_ | refine Pw.skip ?_ | refine Pw.block ?_ | refine Pw.exit ?_ | refine Pw.inX ?_ | refine Pw.inN ?_ | refine Pw.inR ?_ | refine Pw.thenX ?_ | refine Pw.thenR ?_ | refine Pw.ret ?_) | refine Pw.list (Pw.pure rfl rfl rfl ?_) | refine Pw.inY rfl ?_ | refine Pw.list (Pw.off rfl rfl ?_) | refine Pw.condT rfl ?_ | refine Pw.condF rfl ?_)
        refine Pw.list (Pw.index rfl rfl rfl rfl c2 c3 (fun w h => (fact1 h).has c2 c3) rfl rfl ?_)
        rintro bd rfl
        refine Pw.list (Pw.load1 rfl rfl (fun w hs => by first | exact (fact0 hs.all).cell (by first | assumption | omega) (by first | assumption | omega) | exact (fact1 hs.all).cell (by first | assumption | omega) (by first | assumption | omega) | exact (fact2 hs.all).cell (by first | assumption | omega) (by first | assumption | omega) | exact (fact3 hs.all).cell (by first | assumption | omega) (by first | assumption | omega)) rfl rfl ?_)
        obtain ⟨d1, h⟩ := ite_none h
        repeat (first | (with_reducible first | refine Pw.seq ?_ | refine Pw.region ?_ | refine Pw.nil ?_ | refine Pw.then_ ?_ | refine Pw.skip ?_ | refine Pw.block ?_ | refine Pw.exit ?_ | refine Pw.inX ?_ | refine Pw.inN ?_ | refine Pw.inR ?_ | refine Pw.thenX ?_ | refine Pw.thenR ?_ | refine Pw.ret ?_) | refine Pw.list (Pw.pure rfl rfl rfl ?_) | refine Pw.inY rfl ?_ | refine Pw.list (Pw.off rfl rfl ?_) | refine Pw.condT rfl ?_ | refine Pw.condF rfl ?_)
        refine Pw.list (Pw.lit1 rfl rfl rfl rfl rfl rfl rfl rfl rfl (fun g1 => freeHead ?_))
        obtain _ | ⟨g, cap, ex⟩ := o
        · obtain rfl : out = [] := ho
          refine Pw.list (Pw.appendNil (news := [.int .u32 _]) rfl rfl rfl rfl rfl rfl rfl (fun w hs j u hu => by
            have h1 := fact0 hs.all
            rw [add_none, cell_of_blk h1]
            simpa using hu) (by omega) (by simp [maxLen]) (by show 1 * 4 ≤ _; omega) rfl rfl (fun g cap ex h1 h2 => ?_))
          repeat (first | (with_reducible first | refine Pw.seq ?_ | refine Pw.region ?_ | refine Pw.nil ?_ | refine Pw.then_ ?_ | refine Pw.skip ?_ | refine Pw.block ?_ | refine Pw.exit ?_ | refine Pw.inX ?_ | refine Pw.inN ?_ | refine Pw.inR ?_ | refine Pw.thenX ?_ | refine Pw.thenR ?_ | refine Pw.ret ?_) | refine Pw.list (Pw.pure rfl rfl rfl ?_) | refine Pw.inY rfl ?_ | refine Pw.list (Pw.off rfl rfl ?_) | refine Pw.condT rfl ?_ | refine Pw.condF rfl ?_)
          exact Pw.again (k, some (g, cap, ex), [_], _, _) ⟨h, ⟨h1, h2⟩, by simp only [List.length_nil, List.length_cons] at hk ⊢; omega⟩ (by show k < k + 2; omega) ⟨rfl, rfl, rfl, rfl, rfl, trivial⟩ rfl (fun w h => allTail h)
        · obtain ⟨o1, o2⟩ := ho
          refine Pw.list (Pw.append (olds := out.map (Value.int .u32)) (ex := ex) (news := [.int .u32 _]) (L' := fun g' ex' => [⟨g', row (out.map (Value.int .u32) ++ [_] ++ ex') 107⟩]) rfl rfl rfl rfl rfl rfl (by rw [List.length_map]; exact (Nat.mul_one _).symm) o2 rfl (fun u hu => by rw [List.mem_singleton.1 hu]; rfl) (fun w hs j u hu => by
            have h1 := fact0 hs.all
            rw [add_none, cell_of_blk h1]
            simpa using hu) (by simp only [maxLen]; omega) (by show (out.length + 1) * 4 ≤ _; omega) (fun g' ex' => .head) rfl rfl (fun g cap ex h1 h2 => ?_))
          repeat (first | (with_reducible first | refine Pw.seq ?_ | refine Pw.region ?_ | refine Pw.nil ?_ | refine Pw.then_ ?_ | refine Pw.skip ?_ | refine Pw.block ?_ | refine Pw.exit ?_ | refine Pw.inX ?_ | refine Pw.inN ?_ | refine Pw.inR ?_ | refine Pw.thenX ?_ | refine Pw.thenR ?_ | refine Pw.ret ?_) | refine Pw.list (Pw.pure rfl rfl rfl ?_) | refine Pw.inY rfl ?_ | refine Pw.list (Pw.off rfl rfl ?_) | refine Pw.condT rfl ?_ | refine Pw.condF rfl ?_)
          have e : ∀ v : Int, (out ++ [v]).length = out.length + 1 := fun v => by rw [List.length_append]; rfl
          exact Pw.again (k, some (g, cap, ex), out ++ [_], _, _) ⟨h, ⟨by rw [e]; exact h1, by rw [List.map_append]; exact h2⟩, by rw [e]; omega⟩ (by show k < k + 2; omega) ⟨rfl, rfl, by rw [e]; rfl, rfl, rfl, trivial⟩ (by simp [grL]) (fun w h => allTail h)
      · rw [if_neg c3] at h
        obtain ⟨d1, h⟩ := ite_none h
        repeat (first | (with_reducible first | refine Pw.seq ?_ | refine Pw.region ?_ | refine Pw.nil ?_ | refine Pw.then_ ?_ | refine Pw.skip ?_ | refine Pw.block ?_ | refine Pw.exit ?_ | refine Pw.inX ?_ | refine Pw.inN ?_ | refine Pw.inR ?_ | refine Pw.thenX ?_ | refine Pw.thenR ?_ | refine Pw.ret ?_) | refine Pw.list (Pw.pure rfl rfl rfl ?_) | refine Pw.inY rfl ?_ | refine Pw.list (Pw.off rfl rfl ?_) | refine Pw.condT rfl ?_ | refine Pw.condF rfl ?_)
        refine Pw.list (Pw.lit1 rfl rfl rfl rfl rfl rfl rfl rfl rfl (fun g1 => freeHead ?_))
        obtain _ | ⟨g, cap, ex⟩ := o
        · obtain rfl : out = [] := ho
          refine Pw.list (Pw.appendNil (news := [.int .u32 _]) rfl rfl rfl rfl rfl rfl rfl (fun w hs j u hu => by
            have h1 := fact0 hs.all
            rw [add_none, cell_of_blk h1]
            simpa using hu) (by omega) (by simp [maxLen]) (by show 1 * 4 ≤ _; omega) rfl rfl (fun g cap ex h1 h2 => ?_))
          repeat (first | (with_reducible first | refine Pw.seq ?_ | refine Pw.region ?_ | refine Pw.nil ?_ | refine Pw.then_ ?_ | refine Pw.skip ?_ | refine Pw.block ?_ | refine Pw.exit ?_ | refine Pw.inX ?_ | refine Pw.inN ?_ | refine Pw.inR ?_ | refine Pw.thenX ?_ | refine Pw.thenR ?_ | refine Pw.ret ?_) | refine Pw.list (Pw.pure rfl rfl rfl ?_) | refine Pw.inY rfl ?_ | refine Pw.list (Pw.off rfl rfl ?_) | refine Pw.condT rfl ?_ | refine Pw.condF rfl ?_)
          exact Pw.again (k, some (g, cap, ex), [_], _, _) ⟨h, ⟨h1, h2⟩, by simp only [List.length_nil, List.length_cons] at hk ⊢; omega⟩ (by show k < k + 2; omega) ⟨rfl, rfl, rfl, rfl, rfl, trivial⟩ rfl (fun w h => allTail h)
        · obtain ⟨o1, o2⟩ := ho
          refine Pw.list (Pw.append (olds := out.map (Value.int .u32)) (ex := ex) (news := [.int .u32 _]) (L' := fun g' ex' => [⟨g', row (out.map (Value.int .u32) ++ [_] ++ ex') 107⟩]) rfl rfl rfl rfl rfl rfl (by rw [List.length_map]; exact (Nat.mul_one _).symm) o2 rfl (fun u hu => by rw [List.mem_singleton.1 hu]; rfl) (fun w hs j u hu => by
            have h1 := fact0 hs.all
            rw [add_none, cell_of_blk h1]
            simpa using hu) (by simp only [maxLen]; omega) (by show (out.length + 1) * 4 ≤ _; omega) (fun g' ex' => .head) rfl rfl (fun g cap ex h1 h2 => ?_))
          repeat (first | (with_reducible first | refine Pw.seq ?_ | refine Pw.region ?_ | refine Pw.nil ?_ | refine Pw.then_ ?_ | refine Pw.skip ?_ | refine Pw.block ?_ | refine Pw.exit ?_ | refine Pw.inX ?_ | refine Pw.inN ?_ | refine Pw.inR ?_ | refine Pw.thenX ?_ | refine Pw.thenR ?_ | refine Pw.ret ?_) | refine Pw.list (Pw.pure rfl rfl rfl ?_) | refine Pw.inY rfl ?_ | refine Pw.list (Pw.off rfl rfl ?_) | refine Pw.condT rfl ?_ | refine Pw.condF rfl ?_)
          have e : ∀ v : Int, (out ++ [v]).length = out.length + 1 := fun v => by rw [List.length_append]; rfl
          exact Pw.again (k, some (g, cap, ex), out ++ [_], _, _) ⟨h, ⟨by rw [e]; exact h1, by rw [List.map_append]; exact h2⟩, by rw [e]; omega⟩ (by show k < k + 2; omega) ⟨rfl, rfl, by rw [e]; rfl, rfl, rfl, trivial⟩ (by simp [grL]) (fun w h => allTail h)
  · rw [if_neg (by simp [ht])] at h
    obtain ⟨t', ht', h⟩ := Option.bind_eq_some_iff.1 h
    obtain rfl := Option.some.inj h
    have e := rtrim_some (by omega) ht'
    subst e
    obtain _ | ⟨g, cap, ex⟩ := o
    · obtain rfl : out = [] := ho
      repeat (first | (with_reducible first | refine Pw.seq ?_ | refine Pw.region ?_ | refine Pw.nil ?_ | refine Pw.then_ ?_ | refine Pw.skip ?_ | refine Pw.block ?_ | refine Pw.exit ?_ | refine Pw.inX ?_ | refine Pw.inN ?_ | refine Pw.inR ?_ | refine Pw.thenX ?_ | refine Pw.thenR ?_ | refine Pw.ret ?_) | refine Pw.list (Pw.pure rfl rfl rfl ?_) | refine Pw.inY rfl ?_ | refine Pw.list (Pw.off rfl rfl ?_) | refine Pw.condT rfl ?_ | refine Pw.condF rfl ?_)
      refine Pw.list (Pw.call (rtrim_ct [] (none, 0) (by simp)) rfl rfl rfl (by kernel_rfl) rfl rfl (fun w h => Rows.nil _ _ _ _ _) ?_)
      intro z _
      repeat (first | (with_reducible first | refine Pw.seq ?_ | refine Pw.region ?_ | refine Pw.nil ?_ | refine Pw.then_ ?_ | refine Pw.skip ?_ | refine Pw.block ?_ | refine Pw.exit ?_ | refine Pw.inX ?_ | refine Pw.inN ?_ | refine Pw.inR ?_ | refine Pw.thenX ?_ | refine Pw.thenR ?_ | refine Pw.ret ?_) | refine Pw.list (Pw.pure rfl rfl rfl ?_) | refine Pw.inY rfl ?_ | refine Pw.list (Pw.off rfl rfl ?_) | refine Pw.condT rfl ?_ | refine Pw.condF rfl ?_)
      exact Pw.ret_ (x := z) (.tmp rfl .nil) rfl trivial (fun w h => fact0 h)
    · refine freeHead ?_
      repeat (first | (with_reducible first | refine Pw.seq ?_ | refine Pw.region ?_ | refine Pw.nil ?_ | refine Pw.then_ ?_ | refine Pw.skip ?_ | refine Pw.block ?_ | refine Pw.exit ?_ | refine Pw.inX ?_ | refine Pw.inN ?_ | refine Pw.inR ?_ | refine Pw.thenX ?_ | refine Pw.thenR ?_ | refine Pw.ret ?_) | refine Pw.list (Pw.pure rfl rfl rfl ?_) | refine Pw.inY rfl ?_ | refine Pw.list (Pw.off rfl rfl ?_) | refine Pw.condT rfl ?_ | refine Pw.condF rfl ?_)
      refine Pw.list (Pw.call (rtrim_ct out (some ⟨g, 0, none⟩, cap) (by omega)) rfl rfl rfl (by kernel_rfl) rfl rfl (fun w h => ints_of_row (fact0 h) ho.1 (by simp only [maxLen]; omega)) ?_)
      intro z _
      repeat (first | (with_reducible first | refine Pw.seq ?_ | refine Pw.region ?_ | refine Pw.nil ?_ | refine Pw.then_ ?_ | refine Pw.skip ?_ | refine Pw.block ?_ | refine Pw.exit ?_ | refine Pw.inX ?_ | refine Pw.inN ?_ | refine Pw.inR ?_ | refine Pw.thenX ?_ | refine Pw.thenR ?_ | refine Pw.ret ?_) | refine Pw.list (Pw.pure rfl rfl rfl ?_) | refine Pw.inY rfl ?_ | refine Pw.list (Pw.off rfl rfl ?_) | refine Pw.condT rfl ?_ | refine Pw.condF rfl ?_)
      exact Pw.ret_ (x := z) (.tmp rfl .nil) rfl trivial (fun w h => fact0 h)
end Go.Proofs.Wk
/- Walks of the reference: subtracting, multiplying. -/
namespace Go.Proofs.Wk
open Go.RowKit
set_option maxRecDepth 100000
attribute [local irreducible] Pw OpG
set_option linter.unusedVariables false
set_option linter.unusedSimpArgs false
theorem rsubF_ct (a b : List Int) (x y : Option Addr × Nat) (k : Nat) (r : List Int) (h : psephosref01_sub.f k a b = some r) (hl : a.length < 4194304) :
    Ct Try.prog 81 #[sl a x, sl b y] (fun W => S1 a x W ∧ S1 b y W) (fun z : Option Addr × Nat => sl r z) Tt (fun z => S1 r z) := by
  obtain ⟨A, c⟩ := x
  obtain ⟨B, d⟩ := y
  unfold psephosref01_sub.f at h
  rw [Option.bind_some, if_pos (by simp; omega), Option.bind_some, List.nil_append] at h
  refine Ct.start Try.func81 rfl rfl (slots_of rfl slots2) (fun D w0 => Pw.facts two2 ?_)
  repeat (first | (with_reducible first | refine Pw.seq ?_ | refine Pw.region ?_ | refine Pw.nil ?_ | refine Pw.then_ ?_ | refine Pw.skip ?_ | refine Pw.block ?_ | refine Pw.exit ?_ | refine Pw.inX ?_ | refine Pw.inN ?_ | refine Pw.inR ?_ | refine Pw.thenX ?_ | refine Pw.thenR ?_ | refine Pw.ret ?_) | refine Pw.list (Pw.pure rfl rfl rfl ?_) | refine Pw.inY rfl ?_ | refine Pw.list (Pw.off rfl rfl ?_) | refine Pw.condT rfl ?_ | refine Pw.condF rfl ?_)
  refine Pw.list (Pw.lit0 rfl rfl rfl rfl (fun g => ?_))
  repeat (first | (with_reducible first | refine Pw.seq ?_ | refine Pw.region ?_ | refine Pw.nil ?_ | refine Pw.then_ ?_ | refine Pw.skip ?_ | refine Pw.block ?_ | refine Pw.exit ?_ | refine Pw.inX ?_ | refine Pw.inN ?_ | refine Pw.inR ?_ | refine Pw.thenX ?_ | refine Pw.thenR ?_ | refine Pw.ret ?_) | refine Pw.list (Pw.pure rfl rfl rfl ?_) | refine Pw.inY rfl ?_ | refine Pw.list (Pw.off rfl rfl ?_) | refine Pw.condT rfl ?_ | refine Pw.condF rfl ?_)
  refine Pw.list (Pw.appendCopy (news := a.map (Value.int .u32)) rfl rfl rfl rfl rfl rfl (show (a.map (Value.int .u32)).length = a.length * 1 by simp) (fun w hs => (fact0 hs.all).cells) rfl (by simp only [maxLen]; omega) (show a.length * 4 ≤ _ by omega) (.head _) rfl rfl (fun g cap ex h1 h2 => ?_) (fun h0 => Pw.drop ?_))
  · refine Pw.perm (.swap ..) (Pw.drop ?_)
    repeat (first | (with_reducible first | refine Pw.seq ?_ | refine Pw.region ?_ | refine Pw.nil ?_ | refine Pw.then_ ?_ | refine Pw.skip ?_ | refine Pw.block ?_ | refine Pw.exit ?_ | refine Pw.inX ?_ | refine Pw.inN ?_ | refine Pw.inR ?_ | refine Pw.thenX ?_ | refine Pw.thenR ?_ | refine Pw.ret ?_) | refine Pw.list (Pw.pure rfl rfl rfl ?_) | refine Pw.inY rfl ?_ | refine Pw.list (Pw.off rfl rfl ?_) | refine Pw.condT rfl ?_ | refine Pw.condF rfl ?_)
    obtain ⟨m, hm⟩ : ∃ m, m = a.length := ⟨_, rfl⟩
    rw [← hm] at h h1 ⊢
    refine Pw.loopJ (σ := Nat × List Int × Int × Int) (fun s => psephosref01_sub.l0 s.1 b s.2.1 s.2.2.1 (m : Int) s.2.2.2 = some r ∧ s.2.1.length = m)
      (fun s => ⟨[(1, .slice B b.length d), (5, .slice (some ⟨g, 0, none⟩) m cap), (6, .int .u64 s.2.2.1), (13, .int .i64 m), (14, .int .i64 s.2.2.2)], [⟨g, row (s.2.1.map (Value.int .u32) ++ ex) 107⟩], [Ints .u32 b B d]⟩) (fun s => s.1) (k, a, 0, 0) ⟨h, hm.symm⟩ (Pw.enter ⟨rfl, rfl, rfl, rfl, rfl, trivial⟩ (fun _ h => allTail h)) ?_
    clear h
    rintro ⟨k, out, br, i⟩ ⟨h, hout⟩
    dsimp only at h hout ⊢
    obtain _ | k := k
    · cases h
    simp only [psephosref01_sub.l0] at h
    repeat (first | (with_reducible first | refine Pw.seq ?_ | refine Pw.region ?_ | refine Pw.nil ?_ | refine Pw.then_ ?_ | refine Pw.skip ?_ | refine Pw.block ?_ | refine Pw.exit ?_ | refine Pw.inX ?_ | refine Pw.inN ?_ | refine Pw.inR ?_ | refine Pw.thenX ?_ | refine Pw.thenR ?_ | refine Pw.ret ?_) | refine Pw.list (Pw.pure rfl rfl rfl ?_) | refine Pw.inY rfl ?_ | refine Pw.list (Pw.off rfl rfl ?_) | refine Pw.condT rfl ?_ | refine Pw.condF rfl ?_)
    refine Pw.condD rfl (fun c3 => ?_) (fun c3 => ?_)
    · rw [if_pos c3] at h
      repeat (first | (with_reducible first | refine Pw.seq ?_ | refine Pw.region ?_ | refine Pw.nil ?_ | refine Pw.then_ ?_ | refine Pw.skip ?_ | refine Pw.block ?_ | refine Pw.exit ?_ | refine Pw.inX ?_ | refine Pw.inN ?_ | refine Pw.inR ?_ | refine Pw.thenX ?_ | refine Pw.thenR ?_ | refine Pw.ret ?_) | refine Pw.list (Pw.pure rfl rfl rfl ?_) | refine Pw.inY rfl ?_ | refine Pw.list (Pw.off rfl rfl ?_) | refine Pw.condT rfl ?_ | refine Pw.condF rfl ?_)
      refine Pw.condD rfl (fun c6 => ?_) (fun c6 => ?_)
      · rw [if_pos c6] at h
        obtain ⟨c4, h⟩ := ite_none h
        obtain ⟨c5, h⟩ := ite_none h
        repeat (first | (with_reducible first | refine Pw.seq ?_ | refine Pw.region ?_ | refine Pw.nil ?_ | refine Pw.then_ ?_ | refine Pw.skip ?_ | refine Pw.block ?_ | refine Pw.exit ?_ | refine Pw.inX ?_ | refine Pw.inN ?_ | refine Pw.inR ?_ | refine Pw.thenX ?_ | refine Pw.thenR ?_ | refine Pw.ret ?_) | refine Pw.list (Pw.pure rfl rfl rfl ?_) | refine Pw.inY rfl ?_ | refine Pw.list (Pw.off rfl rfl ?_) | refine Pw.condT rfl ?_ | refine Pw.condF rfl ?_)
        refine Pw.list (Pw.index rfl rfl rfl rfl c4 c6 (fun w h => (fact0 h).has c4 c6) rfl rfl ?_)
        rintro bd rfl
        refine Pw.list (Pw.load1 rfl rfl (fun w hs => by first | exact (fact0 hs.all).cell (by first | assumption | omega) (by first | assumption | omega) | exact (fact1 hs.all).cell (by first | assumption | omega) (by first | assumption | omega) | exact (fact2 hs.all).cell (by first | assumption | omega) (by first | assumption | omega) | exact (fact3 hs.all).cell (by first | assumption | omega) (by first | assumption | omega)) rfl rfl ?_)
        repeat (first | (with_reducible first | refine Pw.seq ?_ | refine Pw.region ?_ | refine Pw.nil ?_ | refine Pw.then_ ?_ | refine Pw.skip ?_ | refine Pw.block ?_ | refine Pw.exit ?_ | refine Pw.inX ?_ | refine Pw.inN ?_ | refine Pw.inR ?_ | refine Pw.thenX ?_ | refine Pw.thenR ?_ | refine Pw.ret ?_) | refine Pw.list (Pw.pure rfl rfl rfl ?_) | refine Pw.inY rfl ?_ | refine Pw.list (Pw.off rfl rfl ?_) | refine Pw.condT rfl ?_ | refine Pw.condF rfl ?_)
        refine Pw.list (Pw.indexO rfl rfl rfl rfl c4 (by omega) rfl rfl ?_)
        refine Pw.list (Pw.loadX rfl rfl rfl (.head _) c4 c5 rfl rfl ?_)
        repeat (first | (with_reducible first | refine Pw.seq ?_ | refine Pw.region ?_ | refine Pw.nil ?_ | refine Pw.then_ ?_ | refine Pw.skip ?_ | refine Pw.block ?_ | refine Pw.exit ?_ | refine Pw.inX ?_ | refine Pw.inN ?_ | refine Pw.inR ?_ | refine Pw.thenX ?_ | refine Pw.thenR ?_ | refine Pw.ret ?_) | refine Pw.list (Pw.pure rfl rfl rfl ?_) | refine Pw.inY rfl ?_ | refine Pw.list (Pw.off rfl rfl ?_) | refine Pw.condT rfl ?_ | refine Pw.condF rfl ?_)
        refine Pw.condD rfl (fun c7 => ?_) (fun c7 => ?_)
        · rw [if_pos c7] at h
          repeat (first | (with_reducible first | refine Pw.seq ?_ | refine Pw.region ?_ | refine Pw.nil ?_ | refine Pw.then_ ?_ | refine Pw.skip ?_ | refine Pw.block ?_ | refine Pw.exit ?_ | refine Pw.inX ?_ | refine Pw.inN ?_ | refine Pw.inR ?_ | refine Pw.thenX ?_ | refine Pw.thenR ?_ | refine Pw.ret ?_) | refine Pw.list (Pw.pure rfl rfl rfl ?_) | refine Pw.inY rfl ?_ | refine Pw.list (Pw.off rfl rfl ?_) | refine Pw.condT rfl ?_ | refine Pw.condF rfl ?_)
          refine Pw.list (Pw.indexO rfl rfl rfl rfl c4 (by omega) rfl rfl ?_)
          refine Pw.list (Pw.loadX rfl rfl rfl (.head _) c4 c5 rfl rfl ?_)
          repeat (first | (with_reducible first | refine Pw.seq ?_ | refine Pw.region ?_ | refine Pw.nil ?_ | refine Pw.then_ ?_ | refine Pw.skip ?_ | refine Pw.block ?_ | refine Pw.exit ?_ | refine Pw.inX ?_ | refine Pw.inN ?_ | refine Pw.inR ?_ | refine Pw.thenX ?_ | refine Pw.thenR ?_ | refine Pw.ret ?_) | refine Pw.list (Pw.pure rfl rfl rfl ?_) | refine Pw.inY rfl ?_ | refine Pw.list (Pw.off rfl rfl ?_) | refine Pw.condT rfl ?_ | refine Pw.condF rfl ?_)
          refine Pw.list (Pw.indexO rfl rfl rfl rfl c4 (by omega) rfl rfl ?_)
          refine Pw.list (Pw.storeX rfl rfl rfl rfl rfl c4 c5 .head rfl ?_)
          repeat (first | (with_reducible first | refine Pw.seq ?_ | refine Pw.region ?_ | refine Pw.nil ?_ | refine Pw.then_ ?_ | refine Pw.skip ?_ | refine Pw.block ?_ | refine Pw.exit ?_ | refine Pw.inX ?_ | refine Pw.inN ?_ | refine Pw.inR ?_ | refine Pw.thenX ?_ | refine Pw.thenR ?_ | refine Pw.ret ?_) | refine Pw.list (Pw.pure rfl rfl rfl ?_) | refine Pw.inY rfl ?_ | refine Pw.list (Pw.off rfl rfl ?_) | refine Pw.condT rfl ?_ | refine Pw.condF rfl ?_)
          exact Pw.again (k, _, _, _) ⟨h, by rw [List.length_set]; exact hout⟩ (Nat.lt_succ_self _) ⟨rfl, rfl, rfl, rfl, rfl, trivial⟩ rfl (fun w h => h)
        · rw [if_neg c7] at h
          repeat (first | (with_reducible first | refine Pw.seq ?_ | refine Pw.region ?_ | refine Pw.nil ?_ | refine Pw.then_ ?_ | refine Pw.skip ?_ | refine Pw.block ?_ | refine Pw.exit ?_ | refine Pw.inX ?_ | refine Pw.inN ?_ | refine Pw.inR ?_ | refine Pw.thenX ?_ | refine Pw.thenR ?_ | refine Pw.ret ?_) | refine Pw.list (Pw.pure rfl rfl rfl ?_) | refine Pw.inY rfl ?_ | refine Pw.list (Pw.off rfl rfl ?_) | refine Pw.condT rfl ?_ | refine Pw.condF rfl ?_)
          refine Pw.list (Pw.indexO rfl rfl rfl rfl c4 (by omega) rfl rfl ?_)
          refine Pw.list (Pw.loadX rfl rfl rfl (.head _) c4 c5 rfl rfl ?_)
          repeat (first | (with_reducible first | refine Pw.seq ?_ | refine Pw.region ?_ | refine Pw.nil ?_ | refine Pw.then_ ?_ | refine Pw.skip ?_ | refine Pw.block ?_ | refine Pw.exit ?_ | refine Pw.inX ?_ | refine Pw.inN ?_ | refine Pw.inR ?_ | refine Pw.thenX ?_ | refine Pw.thenR ?_ | refine Pw.ret ?_) | refine Pw.list (Pw.pure rfl rfl rfl ?_) | refine Pw.inY rfl ?_ | refine Pw.list (Pw.off rfl rfl ?_) | refine Pw.condT rfl ?_ | refine Pw.condF rfl ?_)
          refine Pw.list (Pw.indexO rfl rfl rfl rfl c4 (by omega) rfl rfl ?_)
          refine Pw.list (Pw.storeX rfl rfl rfl rfl rfl c4 c5 .head rfl ?_)
          repeat (first | (with_reducible first | refine Pw.seq ?_ | refine Pw.region ?_ | refine Pw.nil ?_ | refine Pw.then_ ?_ | refine Pw.skip ?_ | refine Pw.block ?_ | refine Pw.exit ?_ | refine Pw.inX ?_ | refine Pw.inN ?_ | refine Pw.inR ?_ | refine Pw.thenX ?_ | refine Pw.thenR ?_ | refine Pw.ret ?_) | refine Pw.list (Pw.pure rfl rfl rfl ?_) | refine Pw.inY rfl ?_ | refine Pw.list (Pw.off rfl rfl ?_) | refine Pw.condT rfl ?_ | refine Pw.condF rfl ?_)
          exact Pw.again (k, _, _, _) ⟨h, by rw [List.length_set]; exact hout⟩ (Nat.lt_succ_self _) ⟨rfl, rfl, rfl, rfl, rfl, trivial⟩ rfl (fun w h => h)
      · rw [if_neg c6] at h
        obtain ⟨c4, h⟩ := ite_none h
        obtain ⟨c5, h⟩ := ite_none h
        repeat (first | (with_reducible first | refine Pw.seq ?_ | refine Pw.region ?_ | refine Pw.nil ?_ | refine Pw.then_ ?_ | refine Pw.skip ?_ | refine Pw.block ?_ | refine Pw.exit ?_ | refine Pw.inX ?_ | refine Pw.inN ?_ | refine Pw.inR ?_ | refine Pw.thenX ?_ | refine Pw.thenR ?_ | refine Pw.ret ?_) | refine Pw.list (Pw.pure rfl rfl rfl ?_) | refine Pw.inY rfl ?_ | refine Pw.list (Pw.off rfl rfl ?_) | refine Pw.condT rfl ?_ | refine Pw.condF rfl ?_)
        refine Pw.list (Pw.indexO rfl rfl rfl rfl c4 (by omega) rfl rfl ?_)
        refine Pw.list (Pw.loadX rfl rfl rfl (.head _) c4 c5 rfl rfl ?_)
        repeat (first | (with_reducible first | refine Pw.seq ?_ | refine Pw.region ?_ | refine Pw.nil ?_ | refine Pw.then_ ?_ | refine Pw.skip ?_ | refine Pw.block ?_ | refine Pw.exit ?_ | refine Pw.inX ?_ | refine Pw.inN ?_ | refine Pw.inR ?_ | refine Pw.thenX ?_ | refine Pw.thenR ?_ | refine Pw.ret ?_) | refine Pw.list (Pw.pure rfl rfl rfl ?_) | refine Pw.inY rfl ?_ | refine Pw.list (Pw.off rfl rfl ?_) | refine Pw.condT rfl ?_ | refine Pw.condF rfl ?_)
        refine Pw.condD rfl (fun c7 => ?_) (fun c7 => ?_)
        · rw [if_pos c7] at h
          repeat (first | (with_reducible first | refine Pw.seq ?_ | refine Pw.region ?_ | refine Pw.nil ?_ | refine Pw.then_ ?_ | refine Pw.skip ?_ | refine Pw.block ?_ | refine Pw.exit ?_ | refine Pw.inX ?_ | refine Pw.inN ?_ | refine Pw.inR ?_ | refine Pw.thenX ?_ | refine Pw.thenR ?_ | refine Pw.ret ?_) | refine Pw.list (Pw.pure rfl rfl rfl ?_) | refine Pw.inY rfl ?_ | refine Pw.list (Pw.off rfl rfl ?_) | refine Pw.condT rfl ?_ | refine Pw.condF rfl ?_)
          refine Pw.list (Pw.indexO rfl rfl rfl rfl c4 (by omega) rfl rfl ?_)
          refine Pw.list (Pw.loadX rfl rfl rfl (.head _) c4 c5 rfl rfl ?_)
          repeat (first | (with_reducible first | refine Pw.seq ?_ | refine Pw.region ?_ | refine Pw.nil ?_ | refine Pw.then_ ?_ | refine Pw.skip ?_ | refine Pw.block ?_ | refine Pw.exit ?_ | refine Pw.inX ?_ | refine Pw.inN ?_ | refine Pw.inR ?_ | refine Pw.thenX ?_ | refine Pw.thenR ?_ | refine Pw.ret ?_) | refine Pw.list (Pw.pure rfl rfl rfl ?_) | refine Pw.inY rfl ?_ | refine Pw.list (Pw.off rfl rfl ?_) | refine Pw.condT rfl ?_ | refine Pw.condF rfl ?_)
          refine Pw.list (Pw.indexO rfl rfl rfl rfl c4 (by omega) rfl rfl ?_)
          refine Pw.list (Pw.storeX rfl rfl rfl rfl rfl c4 c5 .head rfl ?_)
          repeat (first | (with_reducible first | refine Pw.seq ?_ | refine Pw.region ?_ | refine Pw.nil ?_ | refine Pw.then_ ?_ | refine Pw.skip ?_ | refine Pw.block ?_ | refine Pw.exit ?_ | refine Pw.inX ?_ | refine Pw.inN ?_ | refine Pw.inR ?_ | refine Pw.thenX ?_ | refine Pw.thenR ?_ | refine Pw.ret ?_) | refine Pw.list (Pw.pure rfl rfl rfl ?_) | refine Pw.inY rfl ?_ | refine Pw.list (Pw.off rfl rfl ?_) | refine Pw.condT rfl ?_ | refine Pw.condF rfl ?_)
          exact Pw.again (k, _, _, _) ⟨h, by rw [List.length_set]; exact hout⟩ (Nat.lt_succ_self _) ⟨rfl, rfl, rfl, rfl, rfl, trivial⟩ rfl (fun w h => h)
        · rw [if_neg c7] at h
          repeat (first | (with_reducible first | refine Pw.seq ?_ | refine Pw.region ?_ | refine Pw.nil ?_ | refine Pw.then_ ?_ | refine Pw.skip ?_ | refine Pw.block ?_ | refine Pw.exit ?_ | refine Pw.inX ?_ | refine Pw.inN ?_ | refine Pw.inR ?_ | refine Pw.thenX ?_ | refine Pw.thenR ?_ | refine Pw.ret ?_) | refine Pw.list (Pw.pure rfl rfl rfl ?_) | refine Pw.inY rfl ?_ | refine Pw.list (Pw.off rfl rfl ?_) | refine Pw.condT rfl ?_ | refine Pw.condF rfl ?_)
          refine Pw.list (Pw.indexO rfl rfl rfl rfl c4 (by omega) rfl rfl ?_)
          refine Pw.list (Pw.loadX rfl rfl rfl (.head _) c4 c5 rfl rfl ?_)
          repeat (first | (with_reducible first | refine Pw.seq ?_ | refine Pw.region ?_ | refine Pw.nil ?_ | refine Pw.then_ ?_ | refine Pw.skip ?_ | refine Pw.block ?_ | refine Pw.exit ?_ | refine Pw.inX ?_ | refine Pw.inN ?_ | refine Pw.inR ?_ | refine Pw.thenX ?_ | refine Pw.thenR ?_ | refine Pw.ret ?_) | refine Pw.list (Pw.pure rfl rfl rfl ?_) | refine Pw.inY rfl ?_ | refine Pw.list (Pw.off rfl rfl ?_) | refine Pw.condT rfl ?_ | refine Pw.condF rfl ?_)
          refine Pw.list (Pw.indexO rfl rfl rfl rfl c4 (by omega) rfl rfl ?_)
          refine Pw.list (Pw.storeX rfl rfl rfl rfl rfl c4 c5 .head rfl ?_)
          repeat (first | (with_reducible first | refine Pw.seq ?_ | refine Pw.region ?_ | refine Pw.nil ?_ | refine Pw.then_ ?_ | refine Pw.skip ?_ | refine Pw.block ?_ | refine Pw.exit ?_ | refine Pw.inX ?_ | refine Pw.inN ?_ | refine Pw.inR ?_ | refine Pw.thenX ?_ | refine Pw.thenR ?_ | refine Pw.ret ?_) | refine Pw.list (Pw.pure rfl rfl rfl ?_) | refine Pw.inY rfl ?_ | refine Pw.list (Pw.off rfl rfl ?_) | refine Pw.condT rfl ?_ | refine Pw.condF rfl ?_)
          exact Pw.again (k, _, _, _) ⟨h, by rw [List.length_set]; exact hout⟩ (Nat.lt_succ_self _) ⟨rfl, rfl, rfl, rfl, rfl, trivial⟩ rfl (fun w h => h)
    · rw [if_neg c3] at h
      obtain ⟨t, ht, h⟩ := Option.bind_eq_some_iff.1 h
      have e1 := rtrim_some (by omega) ht
      subst e1
      obtain rfl := Option.some.inj h
      refine freeHead ?_
      repeat (first | (with_reducible first | refine Pw.seq ?_ | refine Pw.region ?_ | refine Pw.nil ?_ | refine Pw.then_ ?_ | refine Pw.skip ?_ | refine Pw.block ?_ | refine Pw.exit ?_ | refine Pw.inX ?_ | refine Pw.inN ?_ | refine Pw.inR ?_ | refine Pw.thenX ?_ | refine Pw.thenR ?_ | refine Pw.ret ?_) | refine Pw.list (Pw.pure rfl rfl rfl ?_) | refine Pw.inY rfl ?_ | refine Pw.list (Pw.off rfl rfl ?_) | refine Pw.condT rfl ?_ | refine Pw.condF rfl ?_)
      refine Pw.re (d := 49) (v' := sl out (some ⟨g, 0, none⟩, cap)) rfl (congrArg (fun m => Value.slice (some ⟨g, 0, none⟩) m cap) hout.symm) ?_
      refine Pw.list (Pw.call (rtrim_ct out (some ⟨g, 0, none⟩, cap) (by omega)) rfl rfl rfl (by kernel_rfl) rfl rfl (fun w h => ints_of_row (fact0 h) (by omega) (by simp only [maxLen]; omega)) ?_)
      intro z1 _
      repeat (first | (with_reducible first | refine Pw.seq ?_ | refine Pw.region ?_ | refine Pw.nil ?_ | refine Pw.then_ ?_ | refine Pw.skip ?_ | refine Pw.block ?_ | refine Pw.exit ?_ | refine Pw.inX ?_ | refine Pw.inN ?_ | refine Pw.inR ?_ | refine Pw.thenX ?_ | refine Pw.thenR ?_ | refine Pw.ret ?_) | refine Pw.list (Pw.pure rfl rfl rfl ?_) | refine Pw.inY rfl ?_ | refine Pw.list (Pw.off rfl rfl ?_) | refine Pw.condT rfl ?_ | refine Pw.condF rfl ?_)
      exact Pw.ret_ (x := z1) (.tmp rfl .nil) rfl trivial (fun w h => fact0 h)
  · obtain rfl := List.eq_nil_of_length_eq_zero h0
    obtain _ | k := k
    · cases h
    simp only [psephosref01_sub.l0] at h
    rw [if_neg (by simp)] at h
    obtain ⟨t, ht, h⟩ := Option.bind_eq_some_iff.1 h
    have e1 := rtrim_some (by simp) ht
    subst e1
    obtain rfl := Option.some.inj h
    repeat (first | (with_reducible first | refine Pw.seq ?_ | refine Pw.region ?_ | refine Pw.nil ?_ | refine Pw.then_ ?_ | refine Pw.skip ?_ | refine Pw.block ?_ | refine Pw.exit ?_ | refine Pw.inX ?_ | refine Pw.inN ?_ | refine Pw.inR ?_ | refine Pw.thenX ?_ | refine Pw.thenR ?_ | refine Pw.ret ?_) | refine Pw.list (Pw.pure rfl rfl rfl ?_) | refine Pw.inY rfl ?_ | refine Pw.list (Pw.off rfl rfl ?_) | refine Pw.condT rfl ?_ | refine Pw.condF rfl ?_)
    refine Pw.rounds 1 ?_
    refine Pw.round ?_
    repeat (first | (with_reducible first | refine Pw.seq ?_ | refine Pw.region ?_ | refine Pw.nil ?_ | refine Pw.then_ ?_ | refine Pw.skip ?_ | refine Pw.block ?_ | refine Pw.exit ?_ | refine Pw.inX ?_ | refine Pw.inN ?_ | refine Pw.inR ?_ | refine Pw.thenX ?_ | refine Pw.thenR ?_ | refine Pw.ret ?_) | refine Pw.list (Pw.pure rfl rfl rfl ?_) | refine Pw.inY rfl ?_ | refine Pw.list (Pw.off rfl rfl ?_) | refine Pw.condT rfl ?_ | refine Pw.condF rfl ?_)
    refine Pw.list (Pw.call (rtrim_ct [] (some ⟨g, 0, none⟩, 0) (by simp)) rfl rfl rfl (by kernel_rfl) rfl rfl (fun w h => Rows.nil _ _ _ _ _) ?_)
    intro z1 _
    repeat (first | (with_reducible first | refine Pw.seq ?_ | refine Pw.region ?_ | refine Pw.nil ?_ | refine Pw.then_ ?_ | refine Pw.skip ?_ | refine Pw.block ?_ | refine Pw.exit ?_ | refine Pw.inX ?_ | refine Pw.inN ?_ | refine Pw.inR ?_ | refine Pw.thenX ?_ | refine Pw.thenR ?_ | refine Pw.ret ?_) | refine Pw.list (Pw.pure rfl rfl rfl ?_) | refine Pw.inY rfl ?_ | refine Pw.list (Pw.off rfl rfl ?_) | refine Pw.condT rfl ?_ | refine Pw.condF rfl ?_)
    exact Pw.ret_ (x := z1) (.tmp rfl .nil) rfl trivial (fun w h => fact0 h)
theorem rmul_ct (a b : List Int) (x y : Option Addr × Nat) (ha : Lm a) (hb : Lm b) (hl : a.length < 1048576) (hl' : b.length < 1048576) :
    Ct Try.prog 69 #[sl a x, sl b y] (fun W => S1 a x W ∧ S1 b y W) (fun z : Option Addr × Nat => sl (natL (val a * val b)) z) Tt (fun z => S1 (natL (val a * val b)) z) := by
  have h := rmul_ev ha hb (by omega) (by omega) (Nat.lt_succ_self _)
  generalize natL (val a * val b) = r at h
  unfold psephosref01_mul.f at h
  generalize Nat.succ _ = k at h
  obtain ⟨c1, h⟩ := ite_none h
  obtain ⟨c2, h⟩ := ite_none h
  obtain ⟨A, c⟩ := x
  obtain ⟨B, d⟩ := y
  refine Ct.start Try.func69 rfl rfl (slots_of rfl slots2) (fun D w0 => Pw.facts two2 ?_)
  obtain ⟨m, hm⟩ : ∃ m, m = a.length + b.length + 1 := ⟨_, rfl⟩
  have e1 : wrap64 (wrap64 ((a.length : Int) + b.length) + 1) = (m : Int) := by rw [wi64 (n := (a.length : Int) + b.length) (by omega) (by omega), wi64 (by omega) (by omega)]; omega
  rw [e1, Int.toNat_natCast] at h
  repeat (first | (with_reducible first | refine Pw.seq ?_ | refine Pw.region ?_ | refine Pw.nil ?_ | refine Pw.then_ ?_ | refine Pw.skip ?_ | refine Pw.block ?_ | refine Pw.exit ?_ | refine Pw.inX ?_ | refine Pw.inN ?_ | refine Pw.inR ?_ | refine Pw.thenX ?_ | refine Pw.thenR ?_ | refine Pw.ret ?_) | refine Pw.list (Pw.pure rfl rfl rfl ?_) | refine Pw.inY rfl ?_ | refine Pw.list (Pw.off rfl rfl ?_) | refine Pw.condT rfl ?_ | refine Pw.condF rfl ?_)
  refine Pw.re (d := 14) (v' := .int .i64 (m : Int)) rfl (by rw [e1]) ?_
  refine Pw.list (Pw.make rfl rfl rfl rfl rfl rfl (show 4 * m ≤ _ by omega) (by simp only [maxLen]; omega) rfl rfl (fun g => ?_))
  rw [zeros_map]
  repeat (first | (with_reducible first | refine Pw.seq ?_ | refine Pw.region ?_ | refine Pw.nil ?_ | refine Pw.then_ ?_ | refine Pw.skip ?_ | refine Pw.block ?_ | refine Pw.exit ?_ | refine Pw.inX ?_ | refine Pw.inN ?_ | refine Pw.inR ?_ | refine Pw.thenX ?_ | refine Pw.thenR ?_ | refine Pw.ret ?_) | refine Pw.list (Pw.pure rfl rfl rfl ?_) | refine Pw.inY rfl ?_ | refine Pw.list (Pw.off rfl rfl ?_) | refine Pw.condT rfl ?_ | refine Pw.condF rfl ?_)
  refine Pw.loopJ (σ := Nat × List Int × Int) (fun s => psephosref01_mul.l0 s.1 a b s.2.1 (a.length : Int) s.2.2 = some r ∧ s.2.1.length = m)
    (fun s => ⟨[(0, .slice A a.length c), (1, .slice B b.length d), (5, .slice (some ⟨g, 0, none⟩) m m), (17, .int .i64 a.length), (18, .int .i64 s.2.2)], [⟨g, row (s.2.1.map (Value.int .u32)) 107⟩], [Ints .u32 a A c, Ints .u32 b B d]⟩) (fun s => s.1) (k, _, 0) ⟨h, by simp⟩ (Pw.enter ⟨rfl, rfl, rfl, rfl, rfl, trivial⟩ (fun _ h => h)) ?_
  clear h
  rintro ⟨k, out, i⟩ ⟨h, hout⟩
  dsimp only at h hout ⊢
  obtain _ | k := k
  · cases h
  simp only [psephosref01_mul.l0] at h
  repeat (first | (with_reducible first | refine Pw.seq ?_ | refine Pw.region ?_ | refine Pw.nil ?_ | refine Pw.then_ ?_ | refine Pw.skip ?_ | refine Pw.block ?_ | refine Pw.exit ?_ | refine Pw.inX ?_ | refine Pw.inN ?_ | refine Pw.inR ?_ | refine Pw.thenX ?_ | refine Pw.thenR ?_ | refine Pw.ret ?_) | refine Pw.list (Pw.pure rfl rfl rfl ?_) | refine Pw.inY rfl ?_ | refine Pw.list (Pw.off rfl rfl ?_) | refine Pw.condT rfl ?_ | refine Pw.condF rfl ?_)
  refine Pw.condD rfl (fun c3 => ?_) (fun c3 => ?_)
  · rw [if_pos c3] at h
    repeat (first | (with_reducible first | refine Pw.seq ?_ | refine Pw.region ?_ | refine Pw.nil ?_ | refine Pw.then_ ?_ | refine Pw.skip ?_ | refine Pw.block ?_ | refine Pw.exit ?_ | refine Pw.inX ?_ | refine Pw.inN ?_ | refine Pw.inR ?_ | refine Pw.thenX ?_ | refine Pw.thenR ?_ | refine Pw.ret ?_) | refine Pw.list (Pw.pure rfl rfl rfl ?_) | refine Pw.inY rfl ?_ | refine Pw.list (Pw.off rfl rfl ?_) | refine Pw.condT rfl ?_ | refine Pw.condF rfl ?_)
    refine Pw.loopJ (σ := Nat × List Int × Int × Int) (fun s => psephosref01_mul.l1 s.1 a b s.2.1 i s.2.2.1 (a.length : Int) i (b.length : Int) s.2.2.2 = some r ∧ s.2.1.length = m ∧ s.1 ≤ k)
      (fun s => ⟨[(0, .slice A a.length c), (1, .slice B b.length d), (5, .slice (some ⟨g, 0, none⟩) m m), (6, .int .i64 i), (7, .int .u64 s.2.2.1), (17, .int .i64 a.length), (18, .int .i64 i), (22, .int .i64 b.length), (23, .int .i64 s.2.2.2)], [⟨g, row (s.2.1.map (Value.int .u32)) 107⟩], [Ints .u32 a A c, Ints .u32 b B d]⟩) (fun s => s.1) (k, _, 0, 0) ⟨h, hout, Nat.le_refl _⟩ (Pw.enter ⟨rfl, rfl, rfl, rfl, rfl, rfl, rfl, rfl, rfl, trivial⟩ (fun _ h => h)) ?_
    clear h hout
    rintro ⟨k', out, carry, j⟩ ⟨h, hout, hk⟩
    dsimp only at h hout hk ⊢
    obtain _ | k' := k'
    · cases h
    simp only [psephosref01_mul.l1] at h
    repeat (first | (with_reducible first | refine Pw.seq ?_ | refine Pw.region ?_ | refine Pw.nil ?_ | refine Pw.then_ ?_ | refine Pw.skip ?_ | refine Pw.block ?_ | refine Pw.exit ?_ | refine Pw.inX ?_ | refine Pw.inN ?_ | refine Pw.inR ?_ | refine Pw.thenX ?_ | refine Pw.thenR ?_ | refine Pw.ret ?_) | refine Pw.list (Pw.pure rfl rfl rfl ?_) | refine Pw.inY rfl ?_ | refine Pw.list (Pw.off rfl rfl ?_) | refine Pw.condT rfl ?_ | refine Pw.condF rfl ?_)
    refine Pw.condD rfl (fun c6 => ?_) (fun c6 => ?_)
    · rw [if_pos c6] at h
      obtain ⟨c7, h⟩ := ite_none h
      obtain ⟨c8, h⟩ := ite_none h
      obtain ⟨c9, h⟩ := ite_none h
      obtain ⟨c10, h⟩ := ite_none h
      obtain ⟨c11, h⟩ := ite_none h
      obtain ⟨c12, h⟩ := ite_none h
      refine Pw.use (p := A.isSome = true ∧ B.isSome = true) (fun w h => ⟨(fact0 h).has c9 c10, (fact1 h).has c11 c12⟩) (fun hA => ?_)
      obtain ⟨⟨ad, rfl⟩, ⟨bd, rfl⟩⟩ := And.intro (some_of hA.1) (some_of hA.2)
      repeat (first | (with_reducible first | refine Pw.seq ?_ | refine Pw.region ?_ | refine Pw.nil ?_ | refine Pw.then_ ?_ | refine Pw.skip ?_ | refine Pw.block ?_ | refine Pw.exit ?_ | refine Pw.inX ?_ | refine Pw.inN ?_ | refine Pw.inR ?_ | refine Pw.thenX ?_ | refine Pw.thenR ?_ | refine Pw.ret ?_) | refine Pw.list (Pw.pure rfl rfl rfl ?_) | refine Pw.inY rfl ?_ | refine Pw.list (Pw.off rfl rfl ?_) | refine Pw.condT rfl ?_ | refine Pw.condF rfl ?_)
      refine Pw.drawnO mixed rfl rfl ?_
      refine Pw.takeP 0 (nb 22 1) rfl rfl rfl rfl (by kernel_rfl) np (fun w h => h.allO) ?_
      refine Pw.takeP 1 (nb 22 3) rfl rfl rfl rfl (by kernel_rfl) np (fun w h => h.allO) ?_
      refine Pw.takeP 2 (nb 22 7) rfl rfl rfl rfl (by kernel_rfl) np (fun w h => h.allO) ?_
      refine Pw.takeP 3 (nb 22 15) rfl rfl rfl rfl (by kernel_rfl) np (fun w h => h.allO) ?_
      refine Pw.takeP 4 (nb 22 31) rfl rfl rfl rfl (by kernel_rfl) np (fun w h => h.allO) ?_
      refine Pw.takeIx 5 (nb 22 63) rfl rfl rfl rfl rfl (by first | assumption | omega) (by first | assumption | omega) rfl rfl (by kernel_rfl) np (fun w h => h.allO) ?_
      refine Pw.takeLd 6 (nb 22 127) rfl rfl rfl (fun w hS => by first | exact own_cell (fact0 hS) (by first | assumption | omega) (by first | assumption | omega) | exact own_cellX (fact0 hS) (by first | assumption | omega) (by first | assumption | omega) | exact (fact0 hS).cell (by first | assumption | omega) (by first | assumption | omega) | exact (fact1 hS).cell (by first | assumption | omega) (by first | assumption | omega) | exact (fact2 hS).cell (by first | assumption | omega) (by first | assumption | omega) | exact (fact3 hS).cell (by first | assumption | omega) (by first | assumption | omega)) rfl rfl (by kernel_rfl) np (fun w h => h.allO) ?_
      refine Pw.takeP 7 (nb 22 255) rfl rfl rfl rfl (by kernel_rfl) np (fun w h => h.allO) ?_
      refine Pw.takeP 8 (nb 22 511) rfl rfl rfl rfl (by kernel_rfl) np (fun w h => h.allO) ?_
      refine Pw.takeP 9 (nb 22 1023) rfl rfl rfl rfl (by kernel_rfl) np (fun w h => h.allO) ?_
      refine Pw.takeP 10 (nb 22 2047) rfl rfl rfl rfl (by kernel_rfl) np (fun w h => h.allO) ?_
      refine Pw.takeIx 11 (nb 22 4095) rfl rfl rfl rfl rfl (by first | assumption | omega) (by first | assumption | omega) rfl rfl (by kernel_rfl) np (fun w h => h.allO) ?_
      refine Pw.takeLd 12 (nb 22 8191) rfl rfl rfl (fun w hS => by first | exact own_cell (fact0 hS) (by first | assumption | omega) (by first | assumption | omega) | exact own_cellX (fact0 hS) (by first | assumption | omega) (by first | assumption | omega) | exact (fact0 hS).cell (by first | assumption | omega) (by first | assumption | omega) | exact (fact1 hS).cell (by first | assumption | omega) (by first | assumption | omega) | exact (fact2 hS).cell (by first | assumption | omega) (by first | assumption | omega) | exact (fact3 hS).cell (by first | assumption | omega) (by first | assumption | omega)) rfl rfl (by kernel_rfl) np (fun w h => h.allO) ?_
      refine Pw.takeP 13 (nb 22 16383) rfl rfl rfl rfl (by kernel_rfl) np (fun w h => h.allO) ?_
      refine Pw.takeP 14 (nb 22 32767) rfl rfl rfl rfl (by kernel_rfl) np (fun w h => h.allO) ?_
      refine Pw.takeP 15 (nb 22 65535) rfl rfl rfl rfl (by kernel_rfl) np (fun w h => h.allO) ?_
      refine Pw.takeIx 16 (nb 22 131071) rfl rfl rfl rfl rfl (by first | assumption | omega) (by first | assumption | omega) rfl rfl (by kernel_rfl) np (fun w h => h.allO) ?_
      refine Pw.takeLd 17 (nb 22 262143) rfl rfl rfl (fun w hS => by first | exact own_cell (fact0 hS) (by first | assumption | omega) (by first | assumption | omega) | exact own_cellX (fact0 hS) (by first | assumption | omega) (by first | assumption | omega) | exact (fact0 hS).cell (by first | assumption | omega) (by first | assumption | omega) | exact (fact1 hS).cell (by first | assumption | omega) (by first | assumption | omega) | exact (fact2 hS).cell (by first | assumption | omega) (by first | assumption | omega) | exact (fact3 hS).cell (by first | assumption | omega) (by first | assumption | omega)) rfl rfl (by kernel_rfl) np (fun w h => h.allO) ?_
      refine Pw.takeP 18 (nb 22 524287) rfl rfl rfl rfl (by kernel_rfl) np (fun w h => h.allO) ?_
      refine Pw.takeP 19 (nb 22 1048575) rfl rfl rfl rfl (by kernel_rfl) np (fun w h => h.allO) ?_
      refine Pw.takeP 20 (nb 22 2097151) rfl rfl rfl rfl (by kernel_rfl) np (fun w h => h.allO) ?_
      refine Pw.takeP 21 (nb 22 4194303) rfl rfl rfl rfl (by kernel_rfl) np (fun w h => h.allO) ?_
      refine Pw.done (by kernel_rfl) ?_
      repeat (first | (with_reducible first | refine Pw.seq ?_ | refine Pw.region ?_ | refine Pw.nil ?_ | refine Pw.then_ ?_ | refine Pw.skip ?_ | refine Pw.block ?_ | refine Pw.exit ?_ | refine Pw.inX ?_ | refine Pw.inN ?_ | refine Pw.inR ?_ | refine Pw.thenX ?_ | refine Pw.thenR ?_ | refine Pw.ret ?_) | refine Pw.list (Pw.pure rfl rfl rfl ?_) | refine Pw.inY rfl ?_ | refine Pw.list (Pw.off rfl rfl ?_) | refine Pw.condT rfl ?_ | refine Pw.condF rfl ?_)
      refine Pw.list (Pw.indexO rfl rfl rfl rfl c7 (by omega) rfl rfl ?_)
      refine Pw.list (Pw.storeI rfl rfl rfl rfl rfl c7 c8 .head rfl ?_)
      repeat (first | (with_reducible first | refine Pw.seq ?_ | refine Pw.region ?_ | refine Pw.nil ?_ | refine Pw.then_ ?_ | refine Pw.skip ?_ | refine Pw.block ?_ | refine Pw.exit ?_ | refine Pw.inX ?_ | refine Pw.inN ?_ | refine Pw.inR ?_ | refine Pw.thenX ?_ | refine Pw.thenR ?_ | refine Pw.ret ?_) | refine Pw.list (Pw.pure rfl rfl rfl ?_) | refine Pw.inY rfl ?_ | refine Pw.list (Pw.off rfl rfl ?_) | refine Pw.condT rfl ?_ | refine Pw.condF rfl ?_)
      exact Pw.again (k', _, _, _) ⟨h, by rw [List.length_set]; exact hout, by omega⟩ (Nat.lt_succ_self _) ⟨rfl, rfl, rfl, rfl, rfl, rfl, rfl, rfl, rfl, trivial⟩ rfl (fun w h => h)
    · rw [if_neg c6] at h
      obtain ⟨c9, h⟩ := ite_none h
      obtain ⟨c10, h⟩ := ite_none h
      repeat (first | (with_reducible first | refine Pw.seq ?_ | refine Pw.region ?_ | refine Pw.nil ?_ | refine Pw.then_ ?_ | refine Pw.skip ?_ | refine Pw.block ?_ | refine Pw.exit ?_ | refine Pw.inX ?_ | refine Pw.inN ?_ | refine Pw.inR ?_ | refine Pw.thenX ?_ | refine Pw.thenR ?_ | refine Pw.ret ?_) | refine Pw.list (Pw.pure rfl rfl rfl ?_) | refine Pw.inY rfl ?_ | refine Pw.list (Pw.off rfl rfl ?_) | refine Pw.condT rfl ?_ | refine Pw.condF rfl ?_)
      refine Pw.list (Pw.indexO rfl rfl rfl rfl c9 (by omega) rfl rfl ?_)
      refine Pw.list (Pw.storeI rfl rfl rfl rfl rfl c9 c10 .head rfl ?_)
      repeat (first | (with_reducible first | refine Pw.seq ?_ | refine Pw.region ?_ | refine Pw.nil ?_ | refine Pw.then_ ?_ | refine Pw.skip ?_ | refine Pw.block ?_ | refine Pw.exit ?_ | refine Pw.inX ?_ | refine Pw.inN ?_ | refine Pw.inR ?_ | refine Pw.thenX ?_ | refine Pw.thenR ?_ | refine Pw.ret ?_) | refine Pw.list (Pw.pure rfl rfl rfl ?_) | refine Pw.inY rfl ?_ | refine Pw.list (Pw.off rfl rfl ?_) | refine Pw.condT rfl ?_ | refine Pw.condF rfl ?_)
      exact Pw.again (k', _, _) ⟨h, by rw [List.length_set]; exact hout⟩ (by show k' < k + 1; omega) ⟨rfl, rfl, rfl, rfl, rfl, trivial⟩ rfl (fun w h => h)
  · rw [if_neg c3] at h
    obtain ⟨t, ht, h⟩ := Option.bind_eq_some_iff.1 h
    have e2 := rtrim_some (by omega) ht
    subst e2
    obtain rfl := Option.some.inj h
    subst hout
    refine freeHead ?_
    repeat (first | (with_reducible first | refine Pw.seq ?_ | refine Pw.region ?_ | refine Pw.nil ?_ | refine Pw.then_ ?_ | refine Pw.skip ?_ | refine Pw.block ?_ | refine Pw.exit ?_ | refine Pw.inX ?_ | refine Pw.inN ?_ | refine Pw.inR ?_ | refine Pw.thenX ?_ | refine Pw.thenR ?_ | refine Pw.ret ?_) | refine Pw.list (Pw.pure rfl rfl rfl ?_) | refine Pw.inY rfl ?_ | refine Pw.list (Pw.off rfl rfl ?_) | refine Pw.condT rfl ?_ | refine Pw.condF rfl ?_)
    refine Pw.list (Pw.call (rtrim_ct out (some ⟨g, 0, none⟩, out.length) (by omega)) rfl rfl rfl (by kernel_rfl) rfl rfl (fun w h => ints_of_row' (fact0 h) (Nat.le_refl _) (by simp only [maxLen]; omega)) ?_)
    intro z _
    repeat (first | (with_reducible first | refine Pw.seq ?_ | refine Pw.region ?_ | refine Pw.nil ?_ | refine Pw.then_ ?_ | refine Pw.skip ?_ | refine Pw.block ?_ | refine Pw.exit ?_ | refine Pw.inX ?_ | refine Pw.inN ?_ | refine Pw.inR ?_ | refine Pw.thenX ?_ | refine Pw.thenR ?_ | refine Pw.ret ?_) | refine Pw.list (Pw.pure rfl rfl rfl ?_) | refine Pw.inY rfl ?_ | refine Pw.list (Pw.off rfl rfl ?_) | refine Pw.condT rfl ?_ | refine Pw.condF rfl ?_)
    exact Pw.ret_ (x := z) (.tmp rfl .nil) rfl trivial (fun w h => fact0 h)
end Go.Proofs.Wk
/- Walks of the reference: bits, shifting, halving. -/
namespace Go.Proofs.Wk
open Go.RowKit
set_option maxRecDepth 100000
attribute [local irreducible] Pw OpG
set_option linter.unusedVariables false
set_option linter.unusedSimpArgs false
theorem rbits_ct (a : List Int) (x : Option Addr × Nat) (k : Nat) (r : Int) (h : psephosref01_bits.f k a = some r) (hl : a.length < 4194304) :
    Ct Try.prog 97 #[sl a x] (S1 a x) (fun _ : Unit => .int .i64 r) Tt (fun _ _ => True) := by
  obtain ⟨A, c⟩ := x
  unfold psephosref01_bits.f at h
  refine Ct.start Try.func97 rfl rfl (slots_of rfl slots1) (fun D w0 => ?_)
  repeat (first | (with_reducible first | refine Pw.seq ?_ | refine Pw.region ?_ | refine Pw.nil ?_ | refine Pw.then_ ?_ | refine Pw.skip ?_ | refine Pw.block ?_ | refine Pw.exit ?_ | refine Pw.inX ?_ | refine Pw.inN ?_ | refine Pw.inR ?_ | refine Pw.thenX ?_ | refine Pw.thenR ?_ | refine Pw.ret ?_) | refine Pw.list (Pw.pure rfl rfl rfl ?_) | refine Pw.inY rfl ?_ | refine Pw.list (Pw.off rfl rfl ?_) | refine Pw.condT rfl ?_ | refine Pw.condF rfl ?_)
  refine Pw.loopJ (σ := Nat × Int) (fun s => psephosref01_bits.l0 s.1 a s.2 = some r) (fun s => ⟨[(0, .slice A a.length c), (3, .int .i64 s.2)], [], [Ints .u32 a A c]⟩) (fun s => s.1) (_, _) h (Pw.enter ⟨rfl, rfl, trivial⟩ (fun _ h => h)) ?_
  clear h
  rintro ⟨k, n⟩ h
  dsimp only at h ⊢
  obtain _ | k := k
  · cases h
  simp only [psephosref01_bits.l0] at h
  repeat (first | (with_reducible first | refine Pw.seq ?_ | refine Pw.region ?_ | refine Pw.nil ?_ | refine Pw.then_ ?_ | refine Pw.skip ?_ | refine Pw.block ?_ | refine Pw.exit ?_ | refine Pw.inX ?_ | refine Pw.inN ?_ | refine Pw.inR ?_ | refine Pw.thenX ?_ | refine Pw.thenR ?_ | refine Pw.ret ?_) | refine Pw.list (Pw.pure rfl rfl rfl ?_) | refine Pw.inY rfl ?_ | refine Pw.list (Pw.off rfl rfl ?_) | refine Pw.condT rfl ?_ | refine Pw.condF rfl ?_)
  refine Pw.split 9 rfl (fun c1 => ?_) (fun c1 => ?_)
  · rw [if_pos c1] at h
    obtain ⟨c2, h⟩ := ite_none h
    obtain ⟨c3, h⟩ := ite_none h
    obtain ⟨c4, h⟩ := ite_none h
    repeat (first | (with_reducible first | refine Pw.seq ?_ | refine Pw.region ?_ | refine Pw.nil ?_ | refine Pw.then_ ?_ | refine Pw.skip ?_ | refine Pw.block ?_ | refine Pw.exit ?_ | refine Pw.inX ?_ | refine Pw.inN ?_ | refine Pw.inR ?_ | refine Pw.thenX ?_ | refine Pw.thenR ?_ | refine Pw.ret ?_) | refine Pw.list (Pw.pure rfl rfl rfl ?_) | refine Pw.inY rfl ?_ | refine Pw.list (Pw.off rfl rfl ?_) | refine Pw.condT rfl ?_ | refine Pw.condF rfl ?_)
    refine Pw.list (Pw.index rfl rfl rfl rfl c2 c3 (fun w h => (fact0 h).has c2 c3) rfl rfl ?_)
    rintro ad rfl
    refine Pw.list (Pw.load1 rfl rfl (fun w hs => by first | exact (fact0 hs.all).cell (by first | assumption | omega) (by first | assumption | omega) | exact (fact1 hs.all).cell (by first | assumption | omega) (by first | assumption | omega) | exact (fact2 hs.all).cell (by first | assumption | omega) (by first | assumption | omega) | exact (fact3 hs.all).cell (by first | assumption | omega) (by first | assumption | omega)) rfl rfl ?_)
    repeat (first | (with_reducible first | refine Pw.seq ?_ | refine Pw.region ?_ | refine Pw.nil ?_ | refine Pw.then_ ?_ | refine Pw.skip ?_ | refine Pw.block ?_ | refine Pw.exit ?_ | refine Pw.inX ?_ | refine Pw.inN ?_ | refine Pw.inR ?_ | refine Pw.thenX ?_ | refine Pw.thenR ?_ | refine Pw.ret ?_) | refine Pw.list (Pw.pure rfl rfl rfl ?_) | refine Pw.inY rfl ?_ | refine Pw.list (Pw.off rfl rfl ?_) | refine Pw.condT rfl ?_ | refine Pw.condF rfl ?_)
    refine Pw.list (Pw.shr rfl rfl rfl c4 rfl rfl ?_)
    repeat (first | (with_reducible first | refine Pw.seq ?_ | refine Pw.region ?_ | refine Pw.nil ?_ | refine Pw.then_ ?_ | refine Pw.skip ?_ | refine Pw.block ?_ | refine Pw.exit ?_ | refine Pw.inX ?_ | refine Pw.inN ?_ | refine Pw.inR ?_ | refine Pw.thenX ?_ | refine Pw.thenR ?_ | refine Pw.ret ?_) | refine Pw.list (Pw.pure rfl rfl rfl ?_) | refine Pw.inY rfl ?_ | refine Pw.list (Pw.off rfl rfl ?_) | refine Pw.condT rfl ?_ | refine Pw.condF rfl ?_)
    refine Pw.condD rfl (fun c5 => ?_) (fun c5 => ?_)
    · rw [if_pos c5] at h
      repeat (first | (with_reducible first | refine Pw.seq ?_ | refine Pw.region ?_ | refine Pw.nil ?_ | refine Pw.then_ ?_ | refine Pw.skip ?_ | refine Pw.block ?_ | refine Pw.exit ?_ | refine Pw.inX ?_ | refine Pw.inN ?_ | refine Pw.inR ?_ | refine Pw.thenX ?_ | refine Pw.thenR ?_ | refine Pw.ret ?_) | refine Pw.list (Pw.pure rfl rfl rfl ?_) | refine Pw.inY rfl ?_ | refine Pw.list (Pw.off rfl rfl ?_) | refine Pw.condT rfl ?_ | refine Pw.condF rfl ?_)
      exact Pw.again (k, _) h (Nat.lt_succ_self _) ⟨rfl, rfl, trivial⟩ rfl (fun w h => h)
    · rw [if_neg c5] at h
      obtain rfl := Option.some.inj h
      repeat (first | (with_reducible first | refine Pw.seq ?_ | refine Pw.region ?_ | refine Pw.nil ?_ | refine Pw.then_ ?_ | refine Pw.skip ?_ | refine Pw.block ?_ | refine Pw.exit ?_ | refine Pw.inX ?_ | refine Pw.inN ?_ | refine Pw.inR ?_ | refine Pw.thenX ?_ | refine Pw.thenR ?_ | refine Pw.ret ?_) | refine Pw.list (Pw.pure rfl rfl rfl ?_) | refine Pw.inY rfl ?_ | refine Pw.list (Pw.off rfl rfl ?_) | refine Pw.condT rfl ?_ | refine Pw.condF rfl ?_)
      exact Pw.ret_ (x := ()) (.tmp rfl .nil) rfl trivial (fun w h => by trivial)
  · rw [if_neg c1] at h
    obtain rfl := Option.some.inj h
    repeat (first | (with_reducible first | refine Pw.seq ?_ | refine Pw.region ?_ | refine Pw.nil ?_ | refine Pw.then_ ?_ | refine Pw.skip ?_ | refine Pw.block ?_ | refine Pw.exit ?_ | refine Pw.inX ?_ | refine Pw.inN ?_ | refine Pw.inR ?_ | refine Pw.thenX ?_ | refine Pw.thenR ?_ | refine Pw.ret ?_) | refine Pw.list (Pw.pure rfl rfl rfl ?_) | refine Pw.inY rfl ?_ | refine Pw.list (Pw.off rfl rfl ?_) | refine Pw.condT rfl ?_ | refine Pw.condF rfl ?_)
    exact Pw.ret_ (x := ()) (.tmp rfl .nil) rfl trivial (fun w h => by trivial)
theorem rshifted_ct (a : List Int) (x : Option Addr × Nat) (s : Int) (k : Nat) (r : List Int) (h : psephosref01_shifted.f k a s = some r) (hs : 0 ≤ s) (hs1 : s < 134217728) (hl : a.length < 1048576) :
    Ct Try.prog 98 #[sl a x, .int .i64 s] (S1 a x) (fun z => sl r z) Tt (fun z => S1 r z) := by
  obtain ⟨A, c⟩ := x
  unfold psephosref01_shifted.f at h
  obtain ⟨c1, h⟩ := ite_none h
  obtain ⟨c2, h⟩ := ite_none h
  have e0 : Int.tdiv s 32 = s / 32 := Int.tdiv_eq_ediv_of_nonneg hs
  obtain ⟨m, hm⟩ : ∃ m, m = a.length + (s / 32).toNat + 1 := ⟨_, rfl⟩
  have e1 : wrap64 (wrap64 ((a.length : Int) + wrap64 (Int.tdiv s 32)) + 1) = (m : Int) := by rw [e0, wi64 (n := s / 32) (by omega) (by omega), wi64 (n := (a.length : Int) + s / 32) (by omega) (by omega), wi64 (by omega) (by omega)]; omega
  rw [e1, Int.toNat_natCast] at h
  refine Ct.start Try.func98 rfl rfl (slots_of rfl slots2) (fun D w0 => ?_)
  repeat (first | (with_reducible first | refine Pw.seq ?_ | refine Pw.region ?_ | refine Pw.nil ?_ | refine Pw.then_ ?_ | refine Pw.skip ?_ | refine Pw.block ?_ | refine Pw.exit ?_ | refine Pw.inX ?_ | refine Pw.inN ?_ | refine Pw.inR ?_ | refine Pw.thenX ?_ | refine Pw.thenR ?_ | refine Pw.ret ?_) | refine Pw.list (Pw.pure rfl rfl rfl ?_) | refine Pw.inY rfl ?_ | refine Pw.list (Pw.off rfl rfl ?_) | refine Pw.condT rfl ?_ | refine Pw.condF rfl ?_)
  refine Pw.re (d := 13) (v' := .int .i64 (m : Int)) rfl (by rw [e1]) ?_
  refine Pw.list (Pw.make rfl rfl rfl rfl rfl rfl (show 4 * m ≤ _ by omega) (by simp only [maxLen]; omega) rfl rfl (fun g => ?_))
  rw [zeros_map]
  repeat (first | (with_reducible first | refine Pw.seq ?_ | refine Pw.region ?_ | refine Pw.nil ?_ | refine Pw.then_ ?_ | refine Pw.skip ?_ | refine Pw.block ?_ | refine Pw.exit ?_ | refine Pw.inX ?_ | refine Pw.inN ?_ | refine Pw.inR ?_ | refine Pw.thenX ?_ | refine Pw.thenR ?_ | refine Pw.ret ?_) | refine Pw.list (Pw.pure rfl rfl rfl ?_) | refine Pw.inY rfl ?_ | refine Pw.list (Pw.off rfl rfl ?_) | refine Pw.condT rfl ?_ | refine Pw.condF rfl ?_)
  refine Pw.loopJ (σ := Nat × List Int × Int) (fun t => psephosref01_shifted.l0 t.1 a s t.2.1 (a.length : Int) t.2.2 = some r ∧ t.2.1.length = m)
    (fun t => ⟨[(0, .slice A a.length c), (1, .int .i64 s), (5, .slice (some ⟨g, 0, none⟩) m m), (16, .int .i64 a.length), (17, .int .i64 t.2.2)], [⟨g, row (t.2.1.map (Value.int .u32)) 107⟩], [Ints .u32 a A c]⟩) (fun s => s.1) (k, _, 0) ⟨h, by simp⟩ (Pw.enter ⟨rfl, rfl, rfl, rfl, rfl, trivial⟩ (fun _ h => h)) ?_
  clear h
  rintro ⟨k, out, i⟩ ⟨h, hout⟩
  dsimp only at h hout ⊢
  obtain _ | k := k
  · cases h
  simp only [psephosref01_shifted.l0] at h
  repeat (first | (with_reducible first | refine Pw.seq ?_ | refine Pw.region ?_ | refine Pw.nil ?_ | refine Pw.then_ ?_ | refine Pw.skip ?_ | refine Pw.block ?_ | refine Pw.exit ?_ | refine Pw.inX ?_ | refine Pw.inN ?_ | refine Pw.inR ?_ | refine Pw.thenX ?_ | refine Pw.thenR ?_ | refine Pw.ret ?_) | refine Pw.list (Pw.pure rfl rfl rfl ?_) | refine Pw.inY rfl ?_ | refine Pw.list (Pw.off rfl rfl ?_) | refine Pw.condT rfl ?_ | refine Pw.condF rfl ?_)
  refine Pw.condD rfl (fun c3 => ?_) (fun c3 => ?_)
  · rw [if_pos c3] at h
    obtain ⟨c4, h⟩ := ite_none h
    obtain ⟨c5, h⟩ := ite_none h
    obtain ⟨c6, h⟩ := ite_none h
    obtain ⟨c7, h⟩ := ite_none h
    obtain ⟨c8, h⟩ := ite_none h
    obtain ⟨c9, h⟩ := ite_none h
    obtain ⟨c10, h⟩ := ite_none h
    repeat (first | (with_reducible first | refine Pw.seq ?_ | refine Pw.region ?_ | refine Pw.nil ?_ | refine Pw.then_ ?_ | refine Pw.skip ?_ | refine Pw.block ?_ | refine Pw.exit ?_ | refine Pw.inX ?_ | refine Pw.inN ?_ | refine Pw.inR ?_ | refine Pw.thenX ?_ | refine Pw.thenR ?_ | refine Pw.ret ?_) | refine Pw.list (Pw.pure rfl rfl rfl ?_) | refine Pw.inY rfl ?_ | refine Pw.list (Pw.off rfl rfl ?_) | refine Pw.condT rfl ?_ | refine Pw.condF rfl ?_)
    refine Pw.list (Pw.index rfl rfl rfl rfl c4 c5 (fun w h => (fact0 h).has c4 c5) rfl rfl ?_)
    rintro ad rfl
    refine Pw.list (Pw.load1 rfl rfl (fun w hs => by first | exact (fact0 hs.all).cell (by first | assumption | omega) (by first | assumption | omega) | exact (fact1 hs.all).cell (by first | assumption | omega) (by first | assumption | omega) | exact (fact2 hs.all).cell (by first | assumption | omega) (by first | assumption | omega) | exact (fact3 hs.all).cell (by first | assumption | omega) (by first | assumption | omega)) rfl rfl ?_)
    repeat (first | (with_reducible first | refine Pw.seq ?_ | refine Pw.region ?_ | refine Pw.nil ?_ | refine Pw.then_ ?_ | refine Pw.skip ?_ | refine Pw.block ?_ | refine Pw.exit ?_ | refine Pw.inX ?_ | refine Pw.inN ?_ | refine Pw.inR ?_ | refine Pw.thenX ?_ | refine Pw.thenR ?_ | refine Pw.ret ?_) | refine Pw.list (Pw.pure rfl rfl rfl ?_) | refine Pw.inY rfl ?_ | refine Pw.list (Pw.off rfl rfl ?_) | refine Pw.condT rfl ?_ | refine Pw.condF rfl ?_)
    refine Pw.list (Pw.shl rfl rfl rfl c6 rfl rfl ?_)
    repeat (first | (with_reducible first | refine Pw.seq ?_ | refine Pw.region ?_ | refine Pw.nil ?_ | refine Pw.then_ ?_ | refine Pw.skip ?_ | refine Pw.block ?_ | refine Pw.exit ?_ | refine Pw.inX ?_ | refine Pw.inN ?_ | refine Pw.inR ?_ | refine Pw.thenX ?_ | refine Pw.thenR ?_ | refine Pw.ret ?_) | refine Pw.list (Pw.pure rfl rfl rfl ?_) | refine Pw.inY rfl ?_ | refine Pw.list (Pw.off rfl rfl ?_) | refine Pw.condT rfl ?_ | refine Pw.condF rfl ?_)
    refine Pw.list (Pw.indexO rfl rfl rfl rfl c7 (by omega) rfl rfl ?_)
    refine Pw.list (Pw.loadI rfl rfl rfl (.head _) c7 c8 rfl rfl ?_)
    repeat (first | (with_reducible first | refine Pw.seq ?_ | refine Pw.region ?_ | refine Pw.nil ?_ | refine Pw.then_ ?_ | refine Pw.skip ?_ | refine Pw.block ?_ | refine Pw.exit ?_ | refine Pw.inX ?_ | refine Pw.inN ?_ | refine Pw.inR ?_ | refine Pw.thenX ?_ | refine Pw.thenR ?_ | refine Pw.ret ?_) | refine Pw.list (Pw.pure rfl rfl rfl ?_) | refine Pw.inY rfl ?_ | refine Pw.list (Pw.off rfl rfl ?_) | refine Pw.condT rfl ?_ | refine Pw.condF rfl ?_)
    refine Pw.list (Pw.indexO rfl rfl rfl rfl c7 (by omega) rfl rfl ?_)
    refine Pw.list (Pw.storeI rfl rfl rfl rfl rfl c7 c8 .head rfl ?_)
    repeat (first | (with_reducible first | refine Pw.seq ?_ | refine Pw.region ?_ | refine Pw.nil ?_ | refine Pw.then_ ?_ | refine Pw.skip ?_ | refine Pw.block ?_ | refine Pw.exit ?_ | refine Pw.inX ?_ | refine Pw.inN ?_ | refine Pw.inR ?_ | refine Pw.thenX ?_ | refine Pw.thenR ?_ | refine Pw.ret ?_) | refine Pw.list (Pw.pure rfl rfl rfl ?_) | refine Pw.inY rfl ?_ | refine Pw.list (Pw.off rfl rfl ?_) | refine Pw.condT rfl ?_ | refine Pw.condF rfl ?_)
    refine Pw.list (Pw.indexO rfl rfl rfl rfl c9 (by omega) rfl rfl ?_)
    refine Pw.list (Pw.storeI rfl rfl rfl rfl rfl c9 (by rw [List.length_set]; exact c10) .head rfl ?_)
    repeat (first | (with_reducible first | refine Pw.seq ?_ | refine Pw.region ?_ | refine Pw.nil ?_ | refine Pw.then_ ?_ | refine Pw.skip ?_ | refine Pw.block ?_ | refine Pw.exit ?_ | refine Pw.inX ?_ | refine Pw.inN ?_ | refine Pw.inR ?_ | refine Pw.thenX ?_ | refine Pw.thenR ?_ | refine Pw.ret ?_) | refine Pw.list (Pw.pure rfl rfl rfl ?_) | refine Pw.inY rfl ?_ | refine Pw.list (Pw.off rfl rfl ?_) | refine Pw.condT rfl ?_ | refine Pw.condF rfl ?_)
    exact Pw.again (k, _, _) ⟨h, by rw [List.length_set, List.length_set]; exact hout⟩ (Nat.lt_succ_self _) ⟨rfl, rfl, rfl, rfl, rfl, trivial⟩ rfl (fun w h => h)
  · rw [if_neg c3] at h
    obtain ⟨t, ht, h⟩ := Option.bind_eq_some_iff.1 h
    have e2 := rtrim_some (by omega) ht
    subst e2
    obtain rfl := Option.some.inj h
    subst hout
    refine freeHead ?_
    repeat (first | (with_reducible first | refine Pw.seq ?_ | refine Pw.region ?_ | refine Pw.nil ?_ | refine Pw.then_ ?_ | refine Pw.skip ?_ | refine Pw.block ?_ | refine Pw.exit ?_ | refine Pw.inX ?_ | refine Pw.inN ?_ | refine Pw.inR ?_ | refine Pw.thenX ?_ | refine Pw.thenR ?_ | refine Pw.ret ?_) | refine Pw.list (Pw.pure rfl rfl rfl ?_) | refine Pw.inY rfl ?_ | refine Pw.list (Pw.off rfl rfl ?_) | refine Pw.condT rfl ?_ | refine Pw.condF rfl ?_)
    refine Pw.list (Pw.call (rtrim_ct out (some ⟨g, 0, none⟩, out.length) (by omega)) rfl rfl rfl (by kernel_rfl) rfl rfl (fun w h => ints_of_row' (fact0 h) (Nat.le_refl _) (by simp only [maxLen]; omega)) ?_)
    intro z _
    repeat (first | (with_reducible first | refine Pw.seq ?_ | refine Pw.region ?_ | refine Pw.nil ?_ | refine Pw.then_ ?_ | refine Pw.skip ?_ | refine Pw.block ?_ | refine Pw.exit ?_ | refine Pw.inX ?_ | refine Pw.inN ?_ | refine Pw.inR ?_ | refine Pw.thenX ?_ | refine Pw.thenR ?_ | refine Pw.ret ?_) | refine Pw.list (Pw.pure rfl rfl rfl ?_) | refine Pw.inY rfl ?_ | refine Pw.list (Pw.off rfl rfl ?_) | refine Pw.condT rfl ?_ | refine Pw.condF rfl ?_)
    exact Pw.ret_ (x := z) (.tmp rfl .nil) rfl trivial (fun w h => fact0 h)
end Go.Proofs.Wk
/- Walks of the reference: halving, dividing, the greatest common divisor. -/
namespace Go.Proofs.Wk
open Go.RowKit
set_option maxRecDepth 100000
attribute [local irreducible] Pw OpG
set_option linter.unusedVariables false
set_option linter.unusedSimpArgs false
theorem rhalf_ct (a : List Int) (x : Option Addr × Nat) (k : Nat) (r : List Int) (h : psephosref01_half.f k a = some r) (hl : a.length < 4194304) :
    Ct Try.prog 99 #[sl a x] (S1 a x) (fun z : Option Addr × Nat => sl r z) Tt (fun z => S1 r z) := by
  obtain ⟨A, c⟩ := x
  unfold psephosref01_half.f at h
  rw [Option.bind_some, if_pos (by simp; omega), Option.bind_some, List.nil_append] at h
  refine Ct.start Try.func99 rfl rfl (slots_of rfl slots1) (fun D w0 => ?_)
  repeat (first | (with_reducible first | refine Pw.seq ?_ | refine Pw.region ?_ | refine Pw.nil ?_ | refine Pw.then_ ?_ | refine Pw.skip ?_ | refine Pw.block ?_ | refine Pw.exit ?_ | refine Pw.inX ?_ | refine Pw.inN ?_ | refine Pw.inR ?_ | refine Pw.thenX ?_ | refine Pw.thenR ?_ | refine Pw.ret ?_) | refine Pw.list (Pw.pure rfl rfl rfl ?_) | refine Pw.inY rfl ?_ | refine Pw.list (Pw.off rfl rfl ?_) | refine Pw.condT rfl ?_ | refine Pw.condF rfl ?_)
  refine Pw.list (Pw.lit0 rfl rfl rfl rfl (fun g => ?_))
  repeat (first | (with_reducible first | refine Pw.seq ?_ | refine Pw.region ?_ | refine Pw.nil ?_ | refine Pw.then_ ?_ | refine Pw.skip ?_ | refine Pw.block ?_ | refine Pw.exit ?_ | refine Pw.inX ?_ | refine Pw.inN ?_ | refine Pw.inR ?_ | refine Pw.thenX ?_ | refine Pw.thenR ?_ | refine Pw.ret ?_) | refine Pw.list (Pw.pure rfl rfl rfl ?_) | refine Pw.inY rfl ?_ | refine Pw.list (Pw.off rfl rfl ?_) | refine Pw.condT rfl ?_ | refine Pw.condF rfl ?_)
  refine Pw.list (Pw.appendCopy (news := a.map (Value.int .u32)) rfl rfl rfl rfl rfl rfl (show (a.map (Value.int .u32)).length = a.length * 1 by simp) (fun w hs => (fact0 hs.all).cells) rfl (by simp only [maxLen]; omega) (show a.length * 4 ≤ _ by omega) (.head _) rfl rfl (fun g cap ex h1 h2 => ?_) (fun h0 => Pw.drop ?_))
  · refine Pw.perm (.swap ..) (Pw.drop ?_)
    repeat (first | (with_reducible first | refine Pw.seq ?_ | refine Pw.region ?_ | refine Pw.nil ?_ | refine Pw.then_ ?_ | refine Pw.skip ?_ | refine Pw.block ?_ | refine Pw.exit ?_ | refine Pw.inX ?_ | refine Pw.inN ?_ | refine Pw.inR ?_ | refine Pw.thenX ?_ | refine Pw.thenR ?_ | refine Pw.ret ?_) | refine Pw.list (Pw.pure rfl rfl rfl ?_) | refine Pw.inY rfl ?_ | refine Pw.list (Pw.off rfl rfl ?_) | refine Pw.condT rfl ?_ | refine Pw.condF rfl ?_)
    obtain ⟨m, hm⟩ : ∃ m, m = a.length := ⟨_, rfl⟩
    refine Pw.loopJ (σ := Nat × List Int × Int) (fun s => psephosref01_half.l0 s.1 a s.2.1 (m : Int) s.2.2 = some r ∧ s.2.1.length = m)
      (fun s => ⟨[(0, .slice A a.length c), (3, .slice (some ⟨g, 0, none⟩) m cap), (9, .int .i64 m), (10, .int .i64 s.2.2)], [⟨g, row (s.2.1.map (Value.int .u32) ++ ex) 107⟩], [Ints .u32 a A c]⟩) (fun s => s.1) (k, a, 0) ⟨by rw [hm]; exact h, hm.symm⟩ (by rw [hm]; exact Pw.enter ⟨rfl, rfl, rfl, rfl, trivial⟩ (fun _ h => h)) ?_
    clear h
    rintro ⟨k, out, i⟩ ⟨h, hout⟩
    dsimp only at h hout ⊢
    obtain _ | k := k
    · cases h
    simp only [psephosref01_half.l0] at h
    repeat (first | (with_reducible first | refine Pw.seq ?_ | refine Pw.region ?_ | refine Pw.nil ?_ | refine Pw.then_ ?_ | refine Pw.skip ?_ | refine Pw.block ?_ | refine Pw.exit ?_ | refine Pw.inX ?_ | refine Pw.inN ?_ | refine Pw.inR ?_ | refine Pw.thenX ?_ | refine Pw.thenR ?_ | refine Pw.ret ?_) | refine Pw.list (Pw.pure rfl rfl rfl ?_) | refine Pw.inY rfl ?_ | refine Pw.list (Pw.off rfl rfl ?_) | refine Pw.condT rfl ?_ | refine Pw.condF rfl ?_)
    refine Pw.condD rfl (fun c3 => ?_) (fun c3 => ?_)
    · rw [if_pos c3] at h
      obtain ⟨c4, h⟩ := ite_none h
      obtain ⟨c5, h⟩ := ite_none h
      rw [Option.bind_some] at h
      repeat (first | (with_reducible first | refine Pw.seq ?_ | refine Pw.region ?_ | refine Pw.nil ?_ | refine Pw.then_ ?_ | refine Pw.skip ?_ | refine Pw.block ?_ | refine Pw.exit ?_ | refine Pw.inX ?_ | refine Pw.inN ?_ | refine Pw.inR ?_ | refine Pw.thenX ?_ | refine Pw.thenR ?_ | refine Pw.ret ?_) | refine Pw.list (Pw.pure rfl rfl rfl ?_) | refine Pw.inY rfl ?_ | refine Pw.list (Pw.off rfl rfl ?_) | refine Pw.condT rfl ?_ | refine Pw.condF rfl ?_)
      refine Pw.list (Pw.indexO rfl rfl rfl rfl c4 (by omega) rfl rfl ?_)
      refine Pw.list (Pw.loadX rfl rfl rfl (.head _) c4 c5 rfl rfl ?_)
      repeat (first | (with_reducible first | refine Pw.seq ?_ | refine Pw.region ?_ | refine Pw.nil ?_ | refine Pw.then_ ?_ | refine Pw.skip ?_ | refine Pw.block ?_ | refine Pw.exit ?_ | refine Pw.inX ?_ | refine Pw.inN ?_ | refine Pw.inR ?_ | refine Pw.thenX ?_ | refine Pw.thenR ?_ | refine Pw.ret ?_) | refine Pw.list (Pw.pure rfl rfl rfl ?_) | refine Pw.inY rfl ?_ | refine Pw.list (Pw.off rfl rfl ?_) | refine Pw.condT rfl ?_ | refine Pw.condF rfl ?_)
      refine Pw.list (Pw.indexO rfl rfl rfl rfl c4 (by omega) rfl rfl ?_)
      refine Pw.list (Pw.storeX rfl rfl rfl rfl rfl c4 c5 .head rfl ?_)
      obtain ⟨o1, ho1⟩ : ∃ o1, out.set i.toNat (rd out i / 2) = o1 := ⟨_, rfl⟩
      have hl1 : o1.length = m := by rw [← ho1, List.length_set]; exact hout
      rw [ho1] at h ⊢
      repeat (first | (with_reducible first | refine Pw.seq ?_ | refine Pw.region ?_ | refine Pw.nil ?_ | refine Pw.then_ ?_ | refine Pw.skip ?_ | refine Pw.block ?_ | refine Pw.exit ?_ | refine Pw.inX ?_ | refine Pw.inN ?_ | refine Pw.inR ?_ | refine Pw.thenX ?_ | refine Pw.thenR ?_ | refine Pw.ret ?_) | refine Pw.list (Pw.pure rfl rfl rfl ?_) | refine Pw.inY rfl ?_ | refine Pw.list (Pw.off rfl rfl ?_) | refine Pw.condT rfl ?_ | refine Pw.condF rfl ?_)
      refine Pw.condD rfl (fun c6 => ?_) (fun c6 => ?_)
      · rw [if_pos c6] at h
        obtain ⟨c7, h⟩ := ite_none h
        refine Pw.use (p := A.isSome = true) (fun w h => (fact0 h).has c7 c6) (fun hA => ?_)
        obtain ⟨ad, rfl⟩ := some_of hA
        repeat (first | (with_reducible first | refine Pw.seq ?_ | refine Pw.region ?_ | refine Pw.nil ?_ | refine Pw.then_ ?_ | refine Pw.skip ?_ | refine Pw.block ?_ | refine Pw.exit ?_ | refine Pw.inX ?_ | refine Pw.inN ?_ | refine Pw.inR ?_ | refine Pw.thenX ?_ | refine Pw.thenR ?_ | refine Pw.ret ?_) | refine Pw.list (Pw.pure rfl rfl rfl ?_) | refine Pw.inY rfl ?_ | refine Pw.list (Pw.off rfl rfl ?_) | refine Pw.condT rfl ?_ | refine Pw.condF rfl ?_)
        refine Pw.drawnG mixed rfl rfl ?_
        refine Pw.takeP 0 (nb 15 1) rfl rfl rfl rfl (by kernel_rfl) np sf ?_
        refine Pw.takeP 1 (nb 15 3) rfl rfl rfl rfl (by kernel_rfl) np sf ?_
        refine Pw.takeP 2 (nb 15 7) rfl rfl rfl rfl (by kernel_rfl) np sf ?_
        refine Pw.takeP 3 (nb 15 15) rfl rfl rfl rfl (by kernel_rfl) np sf ?_
        refine Pw.takeIx 4 (nb 15 31) rfl rfl rfl rfl rfl (by first | assumption | omega) (by first | assumption | omega) rfl rfl (by kernel_rfl) np sf ?_
        refine Pw.takeP 6 (nb 15 95) rfl rfl rfl rfl (by kernel_rfl) np sf ?_
        refine Pw.takeP 7 (nb 15 223) rfl rfl rfl rfl (by kernel_rfl) np sf ?_
        refine Pw.takeP 8 (nb 15 479) rfl rfl rfl rfl (by kernel_rfl) np sf ?_
        refine Pw.takeIx 9 (nb 15 991) rfl rfl rfl rfl rfl (by first | assumption | omega) (by first | assumption | omega) rfl rfl (by kernel_rfl) np sf ?_
        refine Pw.takeLd 10 (nb 15 2015) rfl rfl rfl (fun w hS => by first | exact own_cell (fact0 hS) (by first | assumption | omega) (by first | assumption | omega) | exact own_cellX (fact0 hS) (by first | assumption | omega) (by first | assumption | omega) | exact (fact0 hS).cell (by first | assumption | omega) (by first | assumption | omega) | exact (fact1 hS).cell (by first | assumption | omega) (by first | assumption | omega) | exact (fact2 hS).cell (by first | assumption | omega) (by first | assumption | omega) | exact (fact3 hS).cell (by first | assumption | omega) (by first | assumption | omega)) rfl rfl (by kernel_rfl) np sf ?_
        refine Pw.takeP 11 (nb 15 4063) rfl rfl rfl rfl (by kernel_rfl) np sf ?_
        refine Pw.one 5 (nb 15 4095) rfl (by kernel_rfl) ?_
        -- load Op.load 107 (Operand.tmp 30)
        refine Pw.re (d := 30) (v' := .pointer (some ⟨g, 0 + i.toNat * 1, none⟩)) rfl (congrArg (fun z => Value.pointer (some z)) (add_none g 0 (i.toNat * 1))) ?_
        refine Pw.loadX rfl rfl rfl (.head _) c4 (by omega) rfl rfl (Pw.held (fun w h => h.all) ?_)
        refine Pw.takeP 12 (nb 15 8191) rfl rfl rfl rfl (by kernel_rfl) np sf ?_
        refine Pw.takeIx 13 (nb 15 16383) rfl rfl rfl rfl rfl (by first | assumption | omega) (by first | assumption | omega) rfl rfl (by kernel_rfl) np sf ?_
        refine Pw.one 14 (nb 15 32767) rfl (by kernel_rfl) ?_
        -- eff Op.store 107 (Operand.tmp 39) (Operand.tmp 38)
        refine Pw.re (d := 39) (v' := .pointer (some ⟨g, 0 + i.toNat * 1, none⟩)) rfl (congrArg (fun z => Value.pointer (some z)) (add_none g 0 (i.toNat * 1))) ?_
        refine Pw.storeX rfl rfl rfl rfl rfl c4 (by omega) .head rfl (Pw.held (fun w h => h.all) ?_)
        refine Pw.done (by kernel_rfl) ?_
        repeat (first | (with_reducible first | refine Pw.seq ?_ | refine Pw.region ?_ | refine Pw.nil ?_ | refine Pw.then_ ?_ | refine Pw.skip ?_ | refine Pw.block ?_ | refine Pw.exit ?_ | refine Pw.inX ?_ | refine Pw.inN ?_ | refine Pw.inR ?_ | refine Pw.thenX ?_ | refine Pw.thenR ?_ | refine Pw.ret ?_) | refine Pw.list (Pw.pure rfl rfl rfl ?_) | refine Pw.inY rfl ?_ | refine Pw.list (Pw.off rfl rfl ?_) | refine Pw.condT rfl ?_ | refine Pw.condF rfl ?_)
        exact Pw.again (k, _, _) ⟨h, by rw [List.length_set]; exact hl1⟩ (Nat.lt_succ_self _) ⟨rfl, rfl, rfl, rfl, trivial⟩ rfl (fun w h => h)
      · rw [if_neg c6] at h
        repeat (first | (with_reducible first | refine Pw.seq ?_ | refine Pw.region ?_ | refine Pw.nil ?_ | refine Pw.then_ ?_ | refine Pw.skip ?_ | refine Pw.block ?_ | refine Pw.exit ?_ | refine Pw.inX ?_ | refine Pw.inN ?_ | refine Pw.inR ?_ | refine Pw.thenX ?_ | refine Pw.thenR ?_ | refine Pw.ret ?_) | refine Pw.list (Pw.pure rfl rfl rfl ?_) | refine Pw.inY rfl ?_ | refine Pw.list (Pw.off rfl rfl ?_) | refine Pw.condT rfl ?_ | refine Pw.condF rfl ?_)
        exact Pw.again (k, _, _) ⟨h, hl1⟩ (Nat.lt_succ_self _) ⟨rfl, rfl, rfl, rfl, trivial⟩ rfl (fun w h => h)
    · rw [if_neg c3] at h
      obtain ⟨t, ht, h⟩ := Option.bind_eq_some_iff.1 h
      have e1 := rtrim_some (by omega) ht
      subst e1
      obtain rfl := Option.some.inj h
      refine freeHead ?_
      repeat (first | (with_reducible first | refine Pw.seq ?_ | refine Pw.region ?_ | refine Pw.nil ?_ | refine Pw.then_ ?_ | refine Pw.skip ?_ | refine Pw.block ?_ | refine Pw.exit ?_ | refine Pw.inX ?_ | refine Pw.inN ?_ | refine Pw.inR ?_ | refine Pw.thenX ?_ | refine Pw.thenR ?_ | refine Pw.ret ?_) | refine Pw.list (Pw.pure rfl rfl rfl ?_) | refine Pw.inY rfl ?_ | refine Pw.list (Pw.off rfl rfl ?_) | refine Pw.condT rfl ?_ | refine Pw.condF rfl ?_)
      refine Pw.re (d := 41) (v' := sl out (some ⟨g, 0, none⟩, cap)) rfl (congrArg (fun m => Value.slice (some ⟨g, 0, none⟩) m cap) hout.symm) ?_
      refine Pw.list (Pw.call (rtrim_ct out (some ⟨g, 0, none⟩, cap) (by omega)) rfl rfl rfl (by kernel_rfl) rfl rfl (fun w h => ints_of_row (fact0 h) (by omega) (by simp only [maxLen]; omega)) ?_)
      intro z1 _
      repeat (first | (with_reducible first | refine Pw.seq ?_ | refine Pw.region ?_ | refine Pw.nil ?_ | refine Pw.then_ ?_ | refine Pw.skip ?_ | refine Pw.block ?_ | refine Pw.exit ?_ | refine Pw.inX ?_ | refine Pw.inN ?_ | refine Pw.inR ?_ | refine Pw.thenX ?_ | refine Pw.thenR ?_ | refine Pw.ret ?_) | refine Pw.list (Pw.pure rfl rfl rfl ?_) | refine Pw.inY rfl ?_ | refine Pw.list (Pw.off rfl rfl ?_) | refine Pw.condT rfl ?_ | refine Pw.condF rfl ?_)
      exact Pw.ret_ (x := z1) (.tmp rfl .nil) rfl trivial (fun w h => fact0 h)
  · obtain rfl := List.eq_nil_of_length_eq_zero h0
    obtain _ | k := k
    · cases h
    simp only [psephosref01_half.l0] at h
    rw [if_neg (by simp)] at h
    obtain ⟨t, ht, h⟩ := Option.bind_eq_some_iff.1 h
    have e1 := rtrim_some (by simp) ht
    subst e1
    obtain rfl := Option.some.inj h
    repeat (first | (with_reducible first | refine Pw.seq ?_ | refine Pw.region ?_ | refine Pw.nil ?_ | refine Pw.then_ ?_ | refine Pw.skip ?_ | refine Pw.block ?_ | refine Pw.exit ?_ | refine Pw.inX ?_ | refine Pw.inN ?_ | refine Pw.inR ?_ | refine Pw.thenX ?_ | refine Pw.thenR ?_ | refine Pw.ret ?_) | refine Pw.list (Pw.pure rfl rfl rfl ?_) | refine Pw.inY rfl ?_ | refine Pw.list (Pw.off rfl rfl ?_) | refine Pw.condT rfl ?_ | refine Pw.condF rfl ?_)
    refine Pw.rounds 1 ?_
    refine Pw.round ?_
    repeat (first | (with_reducible first | refine Pw.seq ?_ | refine Pw.region ?_ | refine Pw.nil ?_ | refine Pw.then_ ?_ | refine Pw.skip ?_ | refine Pw.block ?_ | refine Pw.exit ?_ | refine Pw.inX ?_ | refine Pw.inN ?_ | refine Pw.inR ?_ | refine Pw.thenX ?_ | refine Pw.thenR ?_ | refine Pw.ret ?_) | refine Pw.list (Pw.pure rfl rfl rfl ?_) | refine Pw.inY rfl ?_ | refine Pw.list (Pw.off rfl rfl ?_) | refine Pw.condT rfl ?_ | refine Pw.condF rfl ?_)
    refine Pw.list (Pw.call (rtrim_ct [] (some ⟨g, 0, none⟩, 0) (by simp)) rfl rfl rfl (by kernel_rfl) rfl rfl (fun w h => Rows.nil _ _ _ _ _) ?_)
    intro z1 _
    repeat (first | (with_reducible first | refine Pw.seq ?_ | refine Pw.region ?_ | refine Pw.nil ?_ | refine Pw.then_ ?_ | refine Pw.skip ?_ | refine Pw.block ?_ | refine Pw.exit ?_ | refine Pw.inX ?_ | refine Pw.inN ?_ | refine Pw.inR ?_ | refine Pw.thenX ?_ | refine Pw.thenR ?_ | refine Pw.ret ?_) | refine Pw.list (Pw.pure rfl rfl rfl ?_) | refine Pw.inY rfl ?_ | refine Pw.list (Pw.off rfl rfl ?_) | refine Pw.condT rfl ?_ | refine Pw.condF rfl ?_)
    exact Pw.ret_ (x := z1) (.tmp rfl .nil) rfl trivial (fun w h => fact0 h)
theorem trimL_le : ∀ l : List Int, (trimL l).length ≤ l.length
  | [] => Nat.le_refl _
  | x :: xs => by
    have := trimL_le xs
    unfold trimL; split
    · simp
    · simp only [List.length_cons]; omega
theorem sub_len0 : ∀ (k : Nat) (b out : List Int) (br n i : Int) (r : List Int), psephosref01_sub.l0 k b out br n i = some r → out.length < 1099511627776 → r.length ≤ out.length
  | 0, b, out, br, n, i, r, h, hl => by cases h
  | k + 1, b, out, br, n, i, r, h, hl => by
    simp only [psephosref01_sub.l0] at h
    split at h
    · split at h
      · obtain ⟨_, h⟩ := ite_none h
        obtain ⟨_, h⟩ := ite_none h
        split at h <;> (have := sub_len0 k _ _ _ _ _ _ h (by rw [List.length_set]; exact hl); rw [List.length_set] at this; exact this)
      · obtain ⟨_, h⟩ := ite_none h
        obtain ⟨_, h⟩ := ite_none h
        split at h <;> (have := sub_len0 k _ _ _ _ _ _ h (by rw [List.length_set]; exact hl); rw [List.length_set] at this; exact this)
    · obtain ⟨t, ht, h⟩ := Option.bind_eq_some_iff.1 h
      rw [← Option.some.inj h, rtrim_some hl ht]; exact trimL_le _
theorem sub_len {k : Nat} {a b r : List Int} (h : psephosref01_sub.f k a b = some r) (hl : a.length < 1099511627776) : r.length ≤ a.length := by
  unfold psephosref01_sub.f at h
  rw [Option.bind_some, if_pos (by simp; omega), Option.bind_some, List.nil_append] at h
  exact sub_len0 _ _ _ _ _ _ _ h hl
theorem half_len0 : ∀ (k : Nat) (a out : List Int) (n i : Int) (r : List Int), psephosref01_half.l0 k a out n i = some r → out.length < 1099511627776 → r.length ≤ out.length
  | 0, a, out, n, i, r, h, hl => by cases h
  | k + 1, a, out, n, i, r, h, hl => by
    simp only [psephosref01_half.l0] at h
    split at h
    · obtain ⟨_, h⟩ := ite_none h
      obtain ⟨_, h⟩ := ite_none h
      rw [Option.bind_some] at h
      split at h
      · obtain ⟨_, h⟩ := ite_none h
        have := half_len0 k _ _ _ _ _ h (by rw [List.length_set, List.length_set]; exact hl)
        rw [List.length_set, List.length_set] at this; exact this
      · have := half_len0 k _ _ _ _ _ h (by rw [List.length_set]; exact hl)
        rw [List.length_set] at this; exact this
    · obtain ⟨t, ht, h⟩ := Option.bind_eq_some_iff.1 h
      rw [← Option.some.inj h, rtrim_some hl ht]; exact trimL_le _
theorem half_len {k : Nat} {a r : List Int} (h : psephosref01_half.f k a = some r) (hl : a.length < 4194304) : r.length ≤ a.length := by
  unfold psephosref01_half.f at h
  rw [Option.bind_some, if_pos (by simp; omega), Option.bind_some, List.nil_append] at h
  exact half_len0 _ _ _ _ _ _ h (by omega)
theorem shifted_len0 : ∀ (k : Nat) (a : List Int) (s : Int) (out : List Int) (n i : Int) (r : List Int), psephosref01_shifted.l0 k a s out n i = some r → out.length < 1099511627776 → r.length ≤ out.length
  | 0, a, s, out, n, i, r, h, hl => by cases h
  | k + 1, a, s, out, n, i, r, h, hl => by
    simp only [psephosref01_shifted.l0] at h
    split at h
    · obtain ⟨_, h⟩ := ite_none h
      obtain ⟨_, h⟩ := ite_none h
      obtain ⟨_, h⟩ := ite_none h
      obtain ⟨_, h⟩ := ite_none h
      obtain ⟨_, h⟩ := ite_none h
      obtain ⟨_, h⟩ := ite_none h
      obtain ⟨_, h⟩ := ite_none h
      have := shifted_len0 k _ _ _ _ _ _ h (by rw [List.length_set, List.length_set]; exact hl)
      rw [List.length_set, List.length_set] at this; exact this
    · obtain ⟨t, ht, h⟩ := Option.bind_eq_some_iff.1 h
      rw [← Option.some.inj h, rtrim_some hl ht]; exact trimL_le _
theorem shifted_len {k : Nat} {a r : List Int} {s : Int} (h : psephosref01_shifted.f k a s = some r) (hs : 0 ≤ s) (hs1 : s < 134217728) (hl : a.length < 1048576) : r.length ≤ a.length + (s / 32).toNat + 1 := by
  unfold psephosref01_shifted.f at h
  obtain ⟨_, h⟩ := ite_none h
  obtain ⟨_, h⟩ := ite_none h
  rw [Int.tdiv_eq_ediv_of_nonneg hs, wi64 (n := s / 32) (by omega) (by omega), wi64 (n := (a.length : Int) + s / 32) (by omega) (by omega), wi64 (by omega) (by omega)] at h
  have := shifted_len0 _ _ _ _ _ _ _ h (by rw [List.length_replicate]; omega)
  rw [List.length_replicate] at this; omega
theorem bits_len0 : ∀ (k : Nat) (a : List Int) (n r : Int), psephosref01_bits.l0 k a n = some r → 0 ≤ n → n < 134217728 → 0 ≤ r ∧ r ≤ n
  | 0, a, n, r, h, h0, h1 => by cases h
  | k + 1, a, n, r, h, h0, h1 => by
    simp only [psephosref01_bits.l0] at h
    split at h
    · obtain ⟨_, h⟩ := ite_none h
      obtain ⟨_, h⟩ := ite_none h
      obtain ⟨_, h⟩ := ite_none h
      split at h
      · rw [wi64 (n := n - 1) (by omega) (by omega)] at h
        have := bits_len0 k _ _ _ h (by omega) (by omega); omega
      · have := Option.some.inj h; omega
    · have := Option.some.inj h; omega
theorem bits_len {k : Nat} {a : List Int} {r : Int} (h : psephosref01_bits.f k a = some r) (hl : a.length < 1048576) : 0 ≤ r ∧ r ≤ 32 * a.length := by
  unfold psephosref01_bits.f at h
  rw [wi64 (by omega) (by omega)] at h
  exact bits_len0 _ _ _ _ h (by omega) (by omega)
theorem rdivModF_ct (a b : List Int) (x y : Option Addr × Nat) (k : Nat) (Q M : List Int) (h : psephosref01_divMod.f k a b = some (Q, M)) (hl : a.length < 1048576) (hl' : b.length < 1048576) :
    Ct Try.prog 79 #[sl a x, sl b y] (fun W => S1 a x W ∧ S1 b y W) (fun z : (Option Addr × Nat) × (Option Addr × Nat) => .tuple #[sl Q z.1, sl M z.2]) Tt (fun z W => S1 Q z.1 W ∧ S1 M z.2 W) := by
  unfold psephosref01_divMod.f at h
  obtain ⟨m0, h1, h⟩ := Option.bind_eq_some_iff.1 h
  obtain ⟨n0, h2, h⟩ := Option.bind_eq_some_iff.1 h
  have b1 := bits_len h1 hl
  have b2 := bits_len h2 hl'
  refine Ct.start Try.func79 rfl rfl (slots_of rfl slots2) (fun D w0 => Pw.facts two2 ?_)
  repeat (first | (with_reducible first | refine Pw.seq ?_ | refine Pw.region ?_ | refine Pw.nil ?_ | refine Pw.then_ ?_ | refine Pw.skip ?_ | refine Pw.block ?_ | refine Pw.exit ?_ | refine Pw.inX ?_ | refine Pw.inN ?_ | refine Pw.inR ?_ | refine Pw.thenX ?_ | refine Pw.thenR ?_ | refine Pw.ret ?_) | refine Pw.list (Pw.pure rfl rfl rfl ?_) | refine Pw.inY rfl ?_ | refine Pw.list (Pw.off rfl rfl ?_) | refine Pw.condT rfl ?_ | refine Pw.condF rfl ?_)
  refine Pw.list (Pw.call (rbits_ct a x k m0 h1 (by omega)) rfl rfl rfl (by kernel_rfl) rfl rfl (fun w h => fact0 h) ?_)
  intro _ _
  repeat (first | (with_reducible first | refine Pw.seq ?_ | refine Pw.region ?_ | refine Pw.nil ?_ | refine Pw.then_ ?_ | refine Pw.skip ?_ | refine Pw.block ?_ | refine Pw.exit ?_ | refine Pw.inX ?_ | refine Pw.inN ?_ | refine Pw.inR ?_ | refine Pw.thenX ?_ | refine Pw.thenR ?_ | refine Pw.ret ?_) | refine Pw.list (Pw.pure rfl rfl rfl ?_) | refine Pw.inY rfl ?_ | refine Pw.list (Pw.off rfl rfl ?_) | refine Pw.condT rfl ?_ | refine Pw.condF rfl ?_)
  refine Pw.list (Pw.call (rbits_ct b y k n0 h2 (by omega)) rfl rfl rfl (by kernel_rfl) rfl rfl (fun w h => fact2 h) ?_)
  intro _ _
  have hn1 : wrap64 (m0 - n0) = m0 - n0 := wi64 (by omega) (by omega)
  repeat (first | (with_reducible first | refine Pw.seq ?_ | refine Pw.region ?_ | refine Pw.nil ?_ | refine Pw.then_ ?_ | refine Pw.skip ?_ | refine Pw.block ?_ | refine Pw.exit ?_ | refine Pw.inX ?_ | refine Pw.inN ?_ | refine Pw.inR ?_ | refine Pw.thenX ?_ | refine Pw.thenR ?_ | refine Pw.ret ?_) | refine Pw.list (Pw.pure rfl rfl rfl ?_) | refine Pw.inY rfl ?_ | refine Pw.list (Pw.off rfl rfl ?_) | refine Pw.condT rfl ?_ | refine Pw.condF rfl ?_)
  generalize wrap64 (m0 - n0) = n at h hn1 ⊢
  refine Pw.condD rfl (fun c1 => ?_) (fun c1 => ?_)
  · rw [if_pos c1] at h
    obtain ⟨t, ht, h⟩ := Option.bind_eq_some_iff.1 h
    have e1 := rtrim_some (by omega) ht
    subst e1
    obtain ⟨rfl, rfl⟩ := Prod.mk.inj (Option.some.inj h)
    repeat (first | (with_reducible first | refine Pw.seq ?_ | refine Pw.region ?_ | refine Pw.nil ?_ | refine Pw.then_ ?_ | refine Pw.skip ?_ | refine Pw.block ?_ | refine Pw.exit ?_ | refine Pw.inX ?_ | refine Pw.inN ?_ | refine Pw.inR ?_ | refine Pw.thenX ?_ | refine Pw.thenR ?_ | refine Pw.ret ?_) | refine Pw.list (Pw.pure rfl rfl rfl ?_) | refine Pw.inY rfl ?_ | refine Pw.list (Pw.off rfl rfl ?_) | refine Pw.condT rfl ?_ | refine Pw.condF rfl ?_)
    refine Pw.list (Pw.call (rtrim_ct a x (by omega)) rfl rfl rfl (by kernel_rfl) rfl rfl (fun w h => fact2 h) ?_)
    intro z _
    repeat (first | (with_reducible first | refine Pw.seq ?_ | refine Pw.region ?_ | refine Pw.nil ?_ | refine Pw.then_ ?_ | refine Pw.skip ?_ | refine Pw.block ?_ | refine Pw.exit ?_ | refine Pw.inX ?_ | refine Pw.inN ?_ | refine Pw.inR ?_ | refine Pw.thenX ?_ | refine Pw.thenR ?_ | refine Pw.ret ?_) | refine Pw.list (Pw.pure rfl rfl rfl ?_) | refine Pw.inY rfl ?_ | refine Pw.list (Pw.off rfl rfl ?_) | refine Pw.condT rfl ?_ | refine Pw.condF rfl ?_)
    exact Pw.ret_ (x := ((none, 0), z)) (.tmp rfl (.tmp rfl .nil)) rfl trivial (fun w h => ⟨Rows.nil _ _ _ _ _, fact0 h⟩)
  rw [if_neg c1] at h
  obtain ⟨c2, h⟩ := ite_none h
  obtain ⟨c3, h⟩ := ite_none h
  obtain ⟨r0, h3, h⟩ := Option.bind_eq_some_iff.1 h
  obtain ⟨x0, h4, h⟩ := Option.bind_eq_some_iff.1 h
  obtain rfl := rtrim_some (by omega) h3
  have l1 := trimL_le a
  have l2 := shifted_len h4 (by omega) (by omega) hl'
  obtain ⟨nq, hnq⟩ : ∃ nq, nq = (n / 32).toNat + 1 := ⟨_, rfl⟩
  have e1 : wrap64 (wrap64 (Int.tdiv n 32) + 1) = (nq : Int) := by rw [Int.tdiv_eq_ediv_of_nonneg (by omega), wi64 (n := n / 32) (by omega) (by omega), wi64 (by omega) (by omega)]; omega
  rw [e1, Int.toNat_natCast] at h
  refine Pw.facts (G' := [S1 a x, S1 b y]) (fun w h => allCons (fact2 h) (allCons (fact3 h) allNil)) ?_
  repeat (first | (with_reducible first | refine Pw.seq ?_ | refine Pw.region ?_ | refine Pw.nil ?_ | refine Pw.then_ ?_ | refine Pw.skip ?_ | refine Pw.block ?_ | refine Pw.exit ?_ | refine Pw.inX ?_ | refine Pw.inN ?_ | refine Pw.inR ?_ | refine Pw.thenX ?_ | refine Pw.thenR ?_ | refine Pw.ret ?_) | refine Pw.list (Pw.pure rfl rfl rfl ?_) | refine Pw.inY rfl ?_ | refine Pw.list (Pw.off rfl rfl ?_) | refine Pw.condT rfl ?_ | refine Pw.condF rfl ?_)
  refine Pw.join (σ := Nat × (Option Addr × Nat)) (fun _ => True) (fun s => ⟨[(1, sl b y), (6, .int .i64 n), (7, .slice (some ⟨s.1, 0, none⟩) nq nq), (8, sl (trimL a) s.2)], [⟨s.1, row ((List.replicate nq (0 : Int)).map (Value.int .u32)) 107⟩], [S1 (trimL a) s.2, S1 b y]⟩) ?_ ?_
  · skip
    refine Pw.drawnG mixed rfl rfl ?_
    refine Pw.takeP 0 (nb 8 1) rfl rfl rfl rfl (by kernel_rfl) np sf ?_
    refine Pw.takeP 1 (nb 8 3) rfl rfl rfl rfl (by kernel_rfl) np sf ?_
    refine Pw.takeP 2 (nb 8 7) rfl rfl rfl rfl (by kernel_rfl) np sf ?_
    refine Pw.takeP 4 (nb 8 23) rfl rfl rfl rfl (by kernel_rfl) np sf ?_
    refine Pw.two 3 5 (nb 8 31) (nb 8 55) rfl rfl (by kernel_rfl) ?_ ?_
    · skip
      refine Pw.re (d := 22) (v' := .int .i64 (nq : Int)) rfl (by rw [e1]) ?_
      refine Pw.make rfl rfl rfl rfl rfl rfl (show 4 * nq ≤ _ by omega) (by simp only [maxLen]; omega) rfl rfl (fun g => ?_)
      refine Pw.held sf ?_
      refine Pw.one 5 (nb 8 63) rfl (by kernel_rfl) ?_
      refine Pw.call (rtrim_ct a x (by omega)) rfl rfl rfl (by kernel_rfl) rfl rfl (fun w h => (hv w h)) ?_
      intro z _
      refine Pw.held sf ?_
      refine Pw.takeP 6 (nb 8 127) rfl rfl rfl rfl (by kernel_rfl) np sf ?_
      refine Pw.takeP 7 (nb 8 255) rfl rfl rfl rfl (by kernel_rfl) np sf ?_
      refine Pw.done (by kernel_rfl) ?_
      rw [zeros_map]
      exact Pw.arrive (g, z) trivial ⟨rfl, rfl, rfl, rfl, trivial⟩ rfl (fun w h => allCons (hv w h) (allCons (hv w h) allNil))
    · skip
      refine Pw.call (rtrim_ct a x (by omega)) rfl rfl rfl (by kernel_rfl) rfl rfl (fun w h => (hv w h)) ?_
      intro z _
      refine Pw.held sf ?_
      refine Pw.one 3 (nb 8 63) rfl (by kernel_rfl) ?_
      refine Pw.re (d := 22) (v' := .int .i64 (nq : Int)) rfl (by rw [e1]) ?_
      refine Pw.make rfl rfl rfl rfl rfl rfl (show 4 * nq ≤ _ by omega) (by simp only [maxLen]; omega) rfl rfl (fun g => ?_)
      refine Pw.held sf ?_
      refine Pw.takeP 6 (nb 8 127) rfl rfl rfl rfl (by kernel_rfl) np sf ?_
      refine Pw.takeP 7 (nb 8 255) rfl rfl rfl rfl (by kernel_rfl) np sf ?_
      refine Pw.done (by kernel_rfl) ?_
      rw [zeros_map]
      exact Pw.arrive (g, z) trivial ⟨rfl, rfl, rfl, rfl, trivial⟩ rfl (fun w h => allCons (hv w h) (allCons (hv w h) allNil))
  rintro ⟨gq, zr⟩ _
  dsimp only
  repeat (first | (with_reducible first | refine Pw.seq ?_ | refine Pw.region ?_ | refine Pw.nil ?_ | refine Pw.then_ ?_ | refine Pw.skip ?_ | refine Pw.block ?_ | refine Pw.exit ?_ | refine Pw.inX ?_ | refine Pw.inN ?_ | refine Pw.inR ?_ | refine Pw.thenX ?_ | refine Pw.thenR ?_ | refine Pw.ret ?_) | refine Pw.list (Pw.pure rfl rfl rfl ?_) | refine Pw.inY rfl ?_ | refine Pw.list (Pw.off rfl rfl ?_) | refine Pw.condT rfl ?_ | refine Pw.condF rfl ?_)
  refine Pw.list (Pw.call (rshifted_ct b y n k x0 h4 (by omega) (by omega) hl') rfl rfl rfl (by kernel_rfl) rfl rfl (fun w h => fact1 h) ?_)
  intro zx _
  repeat (first | (with_reducible first | refine Pw.seq ?_ | refine Pw.region ?_ | refine Pw.nil ?_ | refine Pw.then_ ?_ | refine Pw.skip ?_ | refine Pw.block ?_ | refine Pw.exit ?_ | refine Pw.inX ?_ | refine Pw.inN ?_ | refine Pw.inR ?_ | refine Pw.thenX ?_ | refine Pw.thenR ?_ | refine Pw.ret ?_) | refine Pw.list (Pw.pure rfl rfl rfl ?_) | refine Pw.inY rfl ?_ | refine Pw.list (Pw.off rfl rfl ?_) | refine Pw.condT rfl ?_ | refine Pw.condF rfl ?_)
  refine Pw.loopJ (σ := Nat × List Int × (List Int × (Option Addr × Nat)) × (List Int × (Option Addr × Nat)) × Int) (fun t => psephosref01_divMod.l0 t.1 t.2.1 t.2.2.1.1 t.2.2.2.1.1 t.2.2.2.2 = some (Q, M) ∧ t.2.1.length = nq ∧ t.2.2.1.1.length < 4194304 ∧ t.2.2.2.1.1.length < 4194304)
    (fun t => ⟨[(7, .slice (some ⟨gq, 0, none⟩) nq nq), (8, sl t.2.2.1.1 t.2.2.1.2), (9, sl t.2.2.2.1.1 t.2.2.2.1.2), (10, .int .i64 t.2.2.2.2)], [⟨gq, row (t.2.1.map (Value.int .u32)) 107⟩], [S1 t.2.2.1.1 t.2.2.1.2, S1 t.2.2.2.1.1 t.2.2.2.1.2]⟩) (fun s => s.1) (k, _, (_, zr), (x0, zx), n) ⟨h, by simp, by show (trimL a).length < _; omega, by show x0.length < _; omega⟩ (Pw.enter ⟨rfl, rfl, rfl, rfl, trivial⟩ (fun _ h => allCons (fact1 h) (allCons (fact0 h) allNil))) ?_
  have hq2 : nq < 8388608 := by omega
  clear h h1 h2 h4 l1 l2 e1 hn1 c1 c2 c3 hnq
  rintro ⟨k, q, ⟨r, zr⟩, ⟨x, zx⟩, i⟩ ⟨h, hq, hr, hx⟩
  dsimp only at h hq hr hx ⊢
  obtain _ | k := k
  · cases h
  simp only [psephosref01_divMod.l0] at h
  repeat (first | (with_reducible first | refine Pw.seq ?_ | refine Pw.region ?_ | refine Pw.nil ?_ | refine Pw.then_ ?_ | refine Pw.skip ?_ | refine Pw.block ?_ | refine Pw.exit ?_ | refine Pw.inX ?_ | refine Pw.inN ?_ | refine Pw.inR ?_ | refine Pw.thenX ?_ | refine Pw.thenR ?_ | refine Pw.ret ?_) | refine Pw.list (Pw.pure rfl rfl rfl ?_) | refine Pw.inY rfl ?_ | refine Pw.list (Pw.off rfl rfl ?_) | refine Pw.condT rfl ?_ | refine Pw.condF rfl ?_)
  refine Pw.condD rfl (fun c1 => ?_) (fun c1 => ?_)
  · rw [if_pos c1] at h
    obtain ⟨cm, h1, h⟩ := Option.bind_eq_some_iff.1 h
    repeat (first | (with_reducible first | refine Pw.seq ?_ | refine Pw.region ?_ | refine Pw.nil ?_ | refine Pw.then_ ?_ | refine Pw.skip ?_ | refine Pw.block ?_ | refine Pw.exit ?_ | refine Pw.inX ?_ | refine Pw.inN ?_ | refine Pw.inR ?_ | refine Pw.thenX ?_ | refine Pw.thenR ?_ | refine Pw.ret ?_) | refine Pw.list (Pw.pure rfl rfl rfl ?_) | refine Pw.inY rfl ?_ | refine Pw.list (Pw.off rfl rfl ?_) | refine Pw.condT rfl ?_ | refine Pw.condF rfl ?_)
    refine Pw.list (Pw.call (rcmpF_ct r x zr zx k cm h1) rfl rfl rfl (by kernel_rfl) rfl rfl (fun w h => ⟨fact0 h, fact1 h⟩) ?_)
    intro _ _
    repeat (first | (with_reducible first | refine Pw.seq ?_ | refine Pw.region ?_ | refine Pw.nil ?_ | refine Pw.then_ ?_ | refine Pw.skip ?_ | refine Pw.block ?_ | refine Pw.exit ?_ | refine Pw.inX ?_ | refine Pw.inN ?_ | refine Pw.inR ?_ | refine Pw.thenX ?_ | refine Pw.thenR ?_ | refine Pw.ret ?_) | refine Pw.list (Pw.pure rfl rfl rfl ?_) | refine Pw.inY rfl ?_ | refine Pw.list (Pw.off rfl rfl ?_) | refine Pw.condT rfl ?_ | refine Pw.condF rfl ?_)
    refine Pw.condD rfl (fun c2 => ?_) (fun c2 => ?_)
    · rw [if_pos c2] at h
      obtain ⟨r2, h2, h⟩ := Option.bind_eq_some_iff.1 h
      obtain ⟨d1, h⟩ := ite_none h
      obtain ⟨d2, h⟩ := ite_none h
      obtain ⟨d3, h⟩ := ite_none h
      obtain ⟨x2, h3, h⟩ := Option.bind_eq_some_iff.1 h
      have l2 := sub_len h2 (by omega)
      have l3 := half_len h3 (by omega)
      repeat (first | (with_reducible first | refine Pw.seq ?_ | refine Pw.region ?_ | refine Pw.nil ?_ | refine Pw.then_ ?_ | refine Pw.skip ?_ | refine Pw.block ?_ | refine Pw.exit ?_ | refine Pw.inX ?_ | refine Pw.inN ?_ | refine Pw.inR ?_ | refine Pw.thenX ?_ | refine Pw.thenR ?_ | refine Pw.ret ?_) | refine Pw.list (Pw.pure rfl rfl rfl ?_) | refine Pw.inY rfl ?_ | refine Pw.list (Pw.off rfl rfl ?_) | refine Pw.condT rfl ?_ | refine Pw.condF rfl ?_)
      refine Pw.list (Pw.call (rsubF_ct r x zr zx k r2 h2 hr) rfl rfl rfl (by kernel_rfl) rfl rfl (fun w h => ⟨fact1 h, fact2 h⟩) ?_)
      intro zr2 _
      repeat (first | (with_reducible first | refine Pw.seq ?_ | refine Pw.region ?_ | refine Pw.nil ?_ | refine Pw.then_ ?_ | refine Pw.skip ?_ | refine Pw.block ?_ | refine Pw.exit ?_ | refine Pw.inX ?_ | refine Pw.inN ?_ | refine Pw.inR ?_ | refine Pw.thenX ?_ | refine Pw.thenR ?_ | refine Pw.ret ?_) | refine Pw.list (Pw.pure rfl rfl rfl ?_) | refine Pw.inY rfl ?_ | refine Pw.list (Pw.off rfl rfl ?_) | refine Pw.condT rfl ?_ | refine Pw.condF rfl ?_)
      refine Pw.list (Pw.indexO rfl rfl rfl rfl d1 (by omega) rfl rfl ?_)
      refine Pw.list (Pw.loadI rfl rfl rfl (.head _) d1 d2 rfl rfl ?_)
      repeat (first | (with_reducible first | refine Pw.seq ?_ | refine Pw.region ?_ | refine Pw.nil ?_ | refine Pw.then_ ?_ | refine Pw.skip ?_ | refine Pw.block ?_ | refine Pw.exit ?_ | refine Pw.inX ?_ | refine Pw.inN ?_ | refine Pw.inR ?_ | refine Pw.thenX ?_ | refine Pw.thenR ?_ | refine Pw.ret ?_) | refine Pw.list (Pw.pure rfl rfl rfl ?_) | refine Pw.inY rfl ?_ | refine Pw.list (Pw.off rfl rfl ?_) | refine Pw.condT rfl ?_ | refine Pw.condF rfl ?_)
      refine Pw.list (Pw.shl rfl rfl rfl d3 rfl rfl ?_)
      repeat (first | (with_reducible first | refine Pw.seq ?_ | refine Pw.region ?_ | refine Pw.nil ?_ | refine Pw.then_ ?_ | refine Pw.skip ?_ | refine Pw.block ?_ | refine Pw.exit ?_ | refine Pw.inX ?_ | refine Pw.inN ?_ | refine Pw.inR ?_ | refine Pw.thenX ?_ | refine Pw.thenR ?_ | refine Pw.ret ?_) | refine Pw.list (Pw.pure rfl rfl rfl ?_) | refine Pw.inY rfl ?_ | refine Pw.list (Pw.off rfl rfl ?_) | refine Pw.condT rfl ?_ | refine Pw.condF rfl ?_)
      refine Pw.list (Pw.indexO rfl rfl rfl rfl d1 (by omega) rfl rfl ?_)
      refine Pw.list (Pw.storeI rfl rfl rfl rfl rfl d1 d2 .head rfl ?_)
      repeat (first | (with_reducible first | refine Pw.seq ?_ | refine Pw.region ?_ | refine Pw.nil ?_ | refine Pw.then_ ?_ | refine Pw.skip ?_ | refine Pw.block ?_ | refine Pw.exit ?_ | refine Pw.inX ?_ | refine Pw.inN ?_ | refine Pw.inR ?_ | refine Pw.thenX ?_ | refine Pw.thenR ?_ | refine Pw.ret ?_) | refine Pw.list (Pw.pure rfl rfl rfl ?_) | refine Pw.inY rfl ?_ | refine Pw.list (Pw.off rfl rfl ?_) | refine Pw.condT rfl ?_ | refine Pw.condF rfl ?_)
      refine Pw.list (Pw.call (rhalf_ct x zx k x2 h3 hx) rfl rfl rfl (by kernel_rfl) rfl rfl (fun w h => fact3 h) ?_)
      intro zx2 _
      repeat (first | (with_reducible first | refine Pw.seq ?_ | refine Pw.region ?_ | refine Pw.nil ?_ | refine Pw.then_ ?_ | refine Pw.skip ?_ | refine Pw.block ?_ | refine Pw.exit ?_ | refine Pw.inX ?_ | refine Pw.inN ?_ | refine Pw.inR ?_ | refine Pw.thenX ?_ | refine Pw.thenR ?_ | refine Pw.ret ?_) | refine Pw.list (Pw.pure rfl rfl rfl ?_) | refine Pw.inY rfl ?_ | refine Pw.list (Pw.off rfl rfl ?_) | refine Pw.condT rfl ?_ | refine Pw.condF rfl ?_)
      exact Pw.again (k, _, (r2, zr2), (x2, zx2), _) ⟨h, by rw [List.length_set]; exact hq, by show r2.length < _; omega, by show x2.length < _; omega⟩ (Nat.lt_succ_self _) ⟨rfl, rfl, rfl, rfl, trivial⟩ rfl (fun w h => allCons (fact1 h) (allCons (fact0 h) allNil))
    · rw [if_neg c2] at h
      obtain ⟨x2, h3, h⟩ := Option.bind_eq_some_iff.1 h
      have l3 := half_len h3 (by omega)
      repeat (first | (with_reducible first | refine Pw.seq ?_ | refine Pw.region ?_ | refine Pw.nil ?_ | refine Pw.then_ ?_ | refine Pw.skip ?_ | refine Pw.block ?_ | refine Pw.exit ?_ | refine Pw.inX ?_ | refine Pw.inN ?_ | refine Pw.inR ?_ | refine Pw.thenX ?_ | refine Pw.thenR ?_ | refine Pw.ret ?_) | refine Pw.list (Pw.pure rfl rfl rfl ?_) | refine Pw.inY rfl ?_ | refine Pw.list (Pw.off rfl rfl ?_) | refine Pw.condT rfl ?_ | refine Pw.condF rfl ?_)
      refine Pw.list (Pw.call (rhalf_ct x zx k x2 h3 hx) rfl rfl rfl (by kernel_rfl) rfl rfl (fun w h => fact2 h) ?_)
      intro zx2 _
      repeat (first | (with_reducible first | refine Pw.seq ?_ | refine Pw.region ?_ | refine Pw.nil ?_ | refine Pw.then_ ?_ | refine Pw.skip ?_ | refine Pw.block ?_ | refine Pw.exit ?_ | refine Pw.inX ?_ | refine Pw.inN ?_ | refine Pw.inR ?_ | refine Pw.thenX ?_ | refine Pw.thenR ?_ | refine Pw.ret ?_) | refine Pw.list (Pw.pure rfl rfl rfl ?_) | refine Pw.inY rfl ?_ | refine Pw.list (Pw.off rfl rfl ?_) | refine Pw.condT rfl ?_ | refine Pw.condF rfl ?_)
      exact Pw.again (k, _, (r, zr), (x2, zx2), _) ⟨h, hq, hr, by show x2.length < _; omega⟩ (Nat.lt_succ_self _) ⟨rfl, rfl, rfl, rfl, trivial⟩ rfl (fun w h => allCons (fact2 h) (allCons (fact0 h) allNil))
  · rw [if_neg c1] at h
    obtain ⟨t, ht, h⟩ := Option.bind_eq_some_iff.1 h
    have hq1 : q.length < 1099511627776 := by rw [hq]; omega
    have e1 := rtrim_some hq1 ht
    subst e1
    obtain ⟨rfl, rfl⟩ := Prod.mk.inj (Option.some.inj h)
    refine freeHead ?_
    repeat (first | (with_reducible first | refine Pw.seq ?_ | refine Pw.region ?_ | refine Pw.nil ?_ | refine Pw.then_ ?_ | refine Pw.skip ?_ | refine Pw.block ?_ | refine Pw.exit ?_ | refine Pw.inX ?_ | refine Pw.inN ?_ | refine Pw.inR ?_ | refine Pw.thenX ?_ | refine Pw.thenR ?_ | refine Pw.ret ?_) | refine Pw.list (Pw.pure rfl rfl rfl ?_) | refine Pw.inY rfl ?_ | refine Pw.list (Pw.off rfl rfl ?_) | refine Pw.condT rfl ?_ | refine Pw.condF rfl ?_)
    refine Pw.re (d := 57) (v' := sl q (some ⟨gq, 0, none⟩, nq)) rfl (congrArg (fun m => Value.slice (some ⟨gq, 0, none⟩) m nq) hq.symm) ?_
    refine Pw.list (Pw.call (rtrim_ct q (some ⟨gq, 0, none⟩, nq) hq1) rfl rfl rfl (by kernel_rfl) rfl rfl (fun w h => ints_of_row' (fact0 h) (by omega) (by simp only [maxLen]; omega)) ?_)
    intro z1 _
    repeat (first | (with_reducible first | refine Pw.seq ?_ | refine Pw.region ?_ | refine Pw.nil ?_ | refine Pw.then_ ?_ | refine Pw.skip ?_ | refine Pw.block ?_ | refine Pw.exit ?_ | refine Pw.inX ?_ | refine Pw.inN ?_ | refine Pw.inR ?_ | refine Pw.thenX ?_ | refine Pw.thenR ?_ | refine Pw.ret ?_) | refine Pw.list (Pw.pure rfl rfl rfl ?_) | refine Pw.inY rfl ?_ | refine Pw.list (Pw.off rfl rfl ?_) | refine Pw.condT rfl ?_ | refine Pw.condF rfl ?_)
    exact Pw.ret_ (x := (z1, zr)) (.tmp rfl (.tmp rfl .nil)) rfl trivial (fun w h => ⟨fact0 h, fact2 h⟩)
end Go.Proofs.Wk
/- Walks of the reference: the greatest common divisor; lowest terms. -/
namespace Go.Proofs.Wk
open Go.RowKit
set_option maxRecDepth 100000
attribute [local irreducible] Pw OpG
set_option linter.unusedVariables false
set_option linter.unusedSimpArgs false
theorem rdivMod_ct (a b : List Int) (x y : Option Addr × Nat) (ha : Fm a) (hb : Fm b) (hb0 : b.length ≠ 0) (hl : a.length < 1048576) (hl' : b.length < 1048576) :
    Ct Try.prog 79 #[sl a x, sl b y] (fun W => S1 a x W ∧ S1 b y W) (fun z : (Option Addr × Nat) × (Option Addr × Nat) => .tuple #[sl (natL (val a / val b)) z.1, sl (natL (val a % val b)) z.2]) Tt (fun z W => S1 (natL (val a / val b)) z.1 W ∧ S1 (natL (val a % val b)) z.2 W) :=
  rdivModF_ct a b x y _ _ _ (rdivMod_ev ha hb hb0 (by omega) (by omega) (Nat.lt_succ_self _)) hl hl'
theorem rgcd_ct (a b : List Int) (x y : Option Addr × Nat) (ha : Fm a) (hb : Fm b) (hl : a.length < 1048576) (hl' : b.length < 1048576) :
    Ct Try.prog 65 #[sl a x, sl b y] (fun W => S1 a x W ∧ S1 b y W) (fun z : Option Addr × Nat => sl (natL (gcdI (val a) (val b))) z) Tt (fun z => S1 (natL (gcdI (val a) (val b))) z) := by
  refine Ct.start Try.func65 rfl rfl (slots_of rfl slots2) (fun D w0 => Pw.facts two2 ?_)
  obtain ⟨G0, hG0⟩ : ∃ z, z = gcdI (val a) (val b) := ⟨_, rfl⟩
  rw [← hG0]
  obtain ⟨L, hL⟩ : ∃ L, L = max a.length b.length := ⟨_, rfl⟩
  have hL1 : L < 1048576 := by omega
  have va := val_nonneg ha.1; have vb := val_nonneg hb.1
  have pa : val a < pw L := by have := val_lt_pw ha.1; have := pw_le (show a.length ≤ L by omega); omega
  have pb : val b < pw L := by have := val_lt_pw hb.1; have := pw_le (show b.length ≤ L by omega); omega
  have ea := ha.natL; have eb := hb.natL
  repeat (first | (with_reducible first | refine Pw.seq ?_ | refine Pw.region ?_ | refine Pw.nil ?_ | refine Pw.then_ ?_ | refine Pw.skip ?_ | refine Pw.block ?_ | refine Pw.exit ?_ | refine Pw.inX ?_ | refine Pw.inN ?_ | refine Pw.inR ?_ | refine Pw.thenX ?_ | refine Pw.thenR ?_ | refine Pw.ret ?_) | refine Pw.list (Pw.pure rfl rfl rfl ?_) | refine Pw.inY rfl ?_ | refine Pw.list (Pw.off rfl rfl ?_) | refine Pw.condT rfl ?_ | refine Pw.condF rfl ?_)
  refine Pw.loopJ (σ := (Int × (Option Addr × Nat)) × Int × (Option Addr × Nat)) (fun s => 0 ≤ s.1.1 ∧ 0 ≤ s.2.1 ∧ s.1.1 < pw L ∧ s.2.1 < pw L ∧ G0 = gcdI s.1.1 s.2.1) (fun s => ⟨[(0, sl (natL s.1.1) s.1.2), (1, sl (natL s.2.1) s.2.2)], [], [S1 (natL s.1.1) s.1.2, S1 (natL s.2.1) s.2.2]⟩) (fun s => s.2.1.toNat) ((val a, x), (val b, y)) ⟨va, vb, pa, pb, hG0⟩ ?_ ?_
  · rw [← ea, ← eb]
    exact Pw.enter ⟨rfl, rfl, trivial⟩ (fun _ h => h)
  clear ea eb va vb pa pb hG0
  rintro ⟨⟨u, x⟩, ⟨v, y⟩⟩ ⟨hu, hv, pu, pv, hG⟩
  dsimp only at hu hv pu pv hG ⊢
  have lu := natL_len_le hu pu
  have lv := natL_len_le hv pv
  repeat (first | (with_reducible first | refine Pw.seq ?_ | refine Pw.region ?_ | refine Pw.nil ?_ | refine Pw.then_ ?_ | refine Pw.skip ?_ | refine Pw.block ?_ | refine Pw.exit ?_ | refine Pw.inX ?_ | refine Pw.inN ?_ | refine Pw.inR ?_ | refine Pw.thenX ?_ | refine Pw.thenR ?_ | refine Pw.ret ?_) | refine Pw.list (Pw.pure rfl rfl rfl ?_) | refine Pw.inY rfl ?_ | refine Pw.list (Pw.off rfl rfl ?_) | refine Pw.condT rfl ?_ | refine Pw.condF rfl ?_)
  refine Pw.condD rfl (fun c1 => ?_) (fun c1 => ?_)
  · have h0 : v ≠ 0 := fun e => by rw [(natL_len_zero hv).2 e] at c1; omega
    have r0 := Int.emod_nonneg u h0
    have r1 := Int.emod_lt_of_pos u (show 0 < v by omega)
    repeat (first | (with_reducible first | refine Pw.seq ?_ | refine Pw.region ?_ | refine Pw.nil ?_ | refine Pw.then_ ?_ | refine Pw.skip ?_ | refine Pw.block ?_ | refine Pw.exit ?_ | refine Pw.inX ?_ | refine Pw.inN ?_ | refine Pw.inR ?_ | refine Pw.thenX ?_ | refine Pw.thenR ?_ | refine Pw.ret ?_) | refine Pw.list (Pw.pure rfl rfl rfl ?_) | refine Pw.inY rfl ?_ | refine Pw.list (Pw.off rfl rfl ?_) | refine Pw.condT rfl ?_ | refine Pw.condF rfl ?_)
    refine Pw.list (Pw.call (rdivMod_ct (natL u) (natL v) x y (natL_fm u) (natL_fm v) (by omega) (by omega) (by omega)) rfl rfl rfl (by kernel_rfl) rfl rfl (fun w h => ⟨fact0 h, fact1 h⟩) ?_)
    intro z _
    rw [val_natL hu, val_natL hv]
    repeat (first | (with_reducible first | refine Pw.seq ?_ | refine Pw.region ?_ | refine Pw.nil ?_ | refine Pw.then_ ?_ | refine Pw.skip ?_ | refine Pw.block ?_ | refine Pw.exit ?_ | refine Pw.inX ?_ | refine Pw.inN ?_ | refine Pw.inR ?_ | refine Pw.thenX ?_ | refine Pw.thenR ?_ | refine Pw.ret ?_) | refine Pw.list (Pw.pure rfl rfl rfl ?_) | refine Pw.inY rfl ?_ | refine Pw.list (Pw.off rfl rfl ?_) | refine Pw.condT rfl ?_ | refine Pw.condF rfl ?_)
    exact Pw.again ((v, y), (u % v, z.2)) ⟨hv, r0, pv, by show u % v < pw L; omega, by rw [hG]; exact gcdI_step hu (by omega)⟩ (by show (u % v).toNat < v.toNat; omega) ⟨rfl, rfl, trivial⟩ rfl (fun w h => allCons (fact2 h) (allCons (fact0 h).2 allNil))
  · have h0 : v = 0 := (natL_len_zero hv).1 (by omega)
    subst h0
    rw [gcdI_zero hu] at hG
    subst hG
    repeat (first | (with_reducible first | refine Pw.seq ?_ | refine Pw.region ?_ | refine Pw.nil ?_ | refine Pw.then_ ?_ | refine Pw.skip ?_ | refine Pw.block ?_ | refine Pw.exit ?_ | refine Pw.inX ?_ | refine Pw.inN ?_ | refine Pw.inR ?_ | refine Pw.thenX ?_ | refine Pw.thenR ?_ | refine Pw.ret ?_) | refine Pw.list (Pw.pure rfl rfl rfl ?_) | refine Pw.inY rfl ?_ | refine Pw.list (Pw.off rfl rfl ?_) | refine Pw.condT rfl ?_ | refine Pw.condF rfl ?_)
    refine Pw.list (Pw.call (rtrim_ct (natL G0) x (by omega)) rfl rfl rfl (by kernel_rfl) rfl rfl (fun w h => fact0 h) ?_)
    rw [trim_natL (natL_fm G0).1, val_natL hu]
    intro z _
    repeat (first | (with_reducible first | refine Pw.seq ?_ | refine Pw.region ?_ | refine Pw.nil ?_ | refine Pw.then_ ?_ | refine Pw.skip ?_ | refine Pw.block ?_ | refine Pw.exit ?_ | refine Pw.inX ?_ | refine Pw.inN ?_ | refine Pw.inR ?_ | refine Pw.thenX ?_ | refine Pw.thenR ?_ | refine Pw.ret ?_) | refine Pw.list (Pw.pure rfl rfl rfl ?_) | refine Pw.inY rfl ?_ | refine Pw.list (Pw.off rfl rfl ?_) | refine Pw.condT rfl ?_ | refine Pw.condF rfl ?_)
    exact Pw.ret_ (x := z) (.tmp rfl .nil) rfl trivial (fun w h => fact0 h)
end Go.Proofs.Wk
/- Walks of layer 2: forming fractions. -/
namespace Go.Proofs.Wk
open Go.RowKit
set_option maxRecDepth 100000
attribute [local irreducible] Pw OpG
set_option linter.unusedVariables false
set_option linter.unusedSimpArgs false
abbrev Z2 := (Option Addr × Nat) × (Option Addr × Nat)
abbrev rt (a b : List Int) (z : Z2) : Value := .agg #[sl a z.1, sl b z.2]
abbrev R2 (a b : List Int) (z : Z2) (W : World) : Prop := S1 a z.1 W ∧ S1 b z.2 W
instance {G : List (World → Prop)} {a b : List Int} {z : Z2} : Has (R2 a b z :: G) (S1 a z.1) := ⟨fun w h => (fact0 h).1⟩
instance {G : List (World → Prop)} {a b : List Int} {z : Z2} : Has (R2 a b z :: G) (S1 b z.2) := ⟨fun w h => (fact0 h).2⟩
abbrev z0 : Z2 := ((none, 0), (none, 0))
theorem R2.nil (W : World) : R2 [] [] z0 W := ⟨Rows.nil _ _ _ _ _, Rows.nil _ _ _ _ _⟩
theorem Make_ct (a b : List Int) (x y : Option Addr × Nat) (ha : Lm a) (hb : Lm b) (hl : a.length < 1048576) (hl' : b.length < 1048576) :
    Ct Try.prog 50 #[sl a x, sl b y] (fun W => S1 a x W ∧ S1 b y W) (fun z : Z2 => .tuple #[rt (makeS a b).1 (makeS a b).2.1 z, .int .i64 (makeS a b).2.2]) Tt (fun z => R2 (makeS a b).1 (makeS a b).2.1 z) := by
  refine Ct.start Try.func50 rfl rfl (slots_of rfl slots2) (fun D w0 => Pw.facts two2 ?_)
  have hc := Gcd_ct a b x y ha hb hl hl'
  unfold makeS
  by_cases h : fmB a = true ∧ fmB b = true
  · obtain ⟨ea, la, va, pa⟩ := fm_of ha h.1
    obtain ⟨eb, lb, vb, pb⟩ := fm_of hb h.2
    have eg : gcdS a b = (natL (gcdI (val a) (val b)), 0) := if_pos h
    rw [eg] at hc
    rw [if_pos h]
    repeat (first | (with_reducible first | refine Pw.seq ?_ | refine Pw.region ?_ | refine Pw.nil ?_ | refine Pw.then_ ?_ | refine Pw.skip ?_ | refine Pw.block ?_ | refine Pw.exit ?_ | refine Pw.inX ?_ | refine Pw.inN ?_ | refine Pw.inR ?_ | refine Pw.thenX ?_ | refine Pw.thenR ?_ | refine Pw.ret ?_) | refine Pw.list (Pw.pure rfl rfl rfl ?_) | refine Pw.inY rfl ?_ | refine Pw.list (Pw.off rfl rfl ?_) | refine Pw.condT rfl ?_ | refine Pw.condF rfl ?_ | refine Pw.list (Pw.box rfl rfl rfl rfl (fun _ => ?_)) | refine Pw.list (Pw.alloc rfl rfl rfl rfl rfl (fun _ => ?_)) | refine Pw.list (Pw.build rfl rfl rfl rfl ?_) | refine Pw.list (Pw.ld rfl inferInstance rfl rfl rfl ?_) | refine Pw.list (Pw.sto rfl rfl inferInstance rfl rfl rfl rfl rfl inferInstance rfl ?_))
    refine Pw.list (Pw.call hc rfl rfl rfl (by kernel_rfl) rfl rfl (fun w h => ⟨fact0 h, fact1 h⟩) ?_)
    intro zg _
    repeat (first | (with_reducible first | refine Pw.seq ?_ | refine Pw.region ?_ | refine Pw.nil ?_ | refine Pw.then_ ?_ | refine Pw.skip ?_ | refine Pw.block ?_ | refine Pw.exit ?_ | refine Pw.inX ?_ | refine Pw.inN ?_ | refine Pw.inR ?_ | refine Pw.thenX ?_ | refine Pw.thenR ?_ | refine Pw.ret ?_) | refine Pw.list (Pw.pure rfl rfl rfl ?_) | refine Pw.inY rfl ?_ | refine Pw.list (Pw.off rfl rfl ?_) | refine Pw.condT rfl ?_ | refine Pw.condF rfl ?_ | refine Pw.list (Pw.box rfl rfl rfl rfl (fun _ => ?_)) | refine Pw.list (Pw.alloc rfl rfl rfl rfl rfl (fun _ => ?_)) | refine Pw.list (Pw.build rfl rfl rfl rfl ?_) | refine Pw.list (Pw.ld rfl inferInstance rfl rfl rfl ?_) | refine Pw.list (Pw.sto rfl rfl inferInstance rfl rfl rfl rfl rfl inferInstance rfl ?_))
    refine Pw.condD rfl (fun c1 => ?_) (fun c1 => ?_)
    · rw [if_pos (by omega)]
      repeat (first | (with_reducible first | refine Pw.seq ?_ | refine Pw.region ?_ | refine Pw.nil ?_ | refine Pw.then_ ?_ | refine Pw.skip ?_ | refine Pw.block ?_ | refine Pw.exit ?_ | refine Pw.inX ?_ | refine Pw.inN ?_ | refine Pw.inR ?_ | refine Pw.thenX ?_ | refine Pw.thenR ?_ | refine Pw.ret ?_) | refine Pw.list (Pw.pure rfl rfl rfl ?_) | refine Pw.inY rfl ?_ | refine Pw.list (Pw.off rfl rfl ?_) | refine Pw.condT rfl ?_ | refine Pw.condF rfl ?_ | refine Pw.list (Pw.box rfl rfl rfl rfl (fun _ => ?_)) | refine Pw.list (Pw.alloc rfl rfl rfl rfl rfl (fun _ => ?_)) | refine Pw.list (Pw.build rfl rfl rfl rfl ?_) | refine Pw.list (Pw.ld rfl inferInstance rfl rfl rfl ?_) | refine Pw.list (Pw.sto rfl rfl inferInstance rfl rfl rfl rfl rfl inferInstance rfl ?_))
      exact Pw.ret_ (x := z0) (.cell rfl (fun w hs => hs.own _ (.head _)) rfl (.tmp rfl .nil)) rfl trivial (fun w h => R2.nil w)
    · rw [if_neg (by omega)]
      have hbp := val_pos_of ((fmB_iff hb).1 h.2).2 (by omega)
      have g0 := gcdI_pos (x := val a) hbp
      have gl := gcdI_le (x := val a) hbp
      unfold lowS
      obtain ⟨G, hG⟩ : ∃ g, g = gcdI (val a) (val b) := ⟨_, rfl⟩
      rw [← hG] at g0 gl hc ⊢
      have lg := natL_len_le (n := 400) (show 0 ≤ G by omega) (by omega)
      have fg := fmB_natL' (show 0 ≤ G by omega) (by omega)
      have hz : (natL G).length ≠ 0 := fun e => by have := (natL_len_zero (show 0 ≤ G by omega)).1 e; omega
      have d1 := DivMod_ct a (natL G) x zg ha (natL_fm G).1 hl (by omega)
      have d2 := DivMod_ct b (natL G) y zg hb (natL_fm G).1 hl' (by omega)
      have e1 : divS a (natL G) = (natL (val a / G), natL (val a % G), 0) := by unfold divS; rw [if_pos ⟨h.1, fg⟩, if_neg hz, val_natL (by omega)]
      have e2 : divS b (natL G) = (natL (val b / G), natL (val b % G), 0) := by unfold divS; rw [if_pos ⟨h.2, fg⟩, if_neg hz, val_natL (by omega)]
      rw [e1] at d1
      rw [e2] at d2
      repeat (first | (with_reducible first | refine Pw.seq ?_ | refine Pw.region ?_ | refine Pw.nil ?_ | refine Pw.then_ ?_ | refine Pw.skip ?_ | refine Pw.block ?_ | refine Pw.exit ?_ | refine Pw.inX ?_ | refine Pw.inN ?_ | refine Pw.inR ?_ | refine Pw.thenX ?_ | refine Pw.thenR ?_ | refine Pw.ret ?_) | refine Pw.list (Pw.pure rfl rfl rfl ?_) | refine Pw.inY rfl ?_ | refine Pw.list (Pw.off rfl rfl ?_) | refine Pw.condT rfl ?_ | refine Pw.condF rfl ?_ | refine Pw.list (Pw.box rfl rfl rfl rfl (fun _ => ?_)) | refine Pw.list (Pw.alloc rfl rfl rfl rfl rfl (fun _ => ?_)) | refine Pw.list (Pw.build rfl rfl rfl rfl ?_) | refine Pw.list (Pw.ld rfl inferInstance rfl rfl rfl ?_) | refine Pw.list (Pw.sto rfl rfl inferInstance rfl rfl rfl rfl rfl inferInstance rfl ?_))
      refine Pw.list (Pw.call d1 rfl rfl rfl (by kernel_rfl) rfl rfl (fun w h => ⟨fact1 h, fact0 h⟩) ?_)
      intro z1 _
      repeat (first | (with_reducible first | refine Pw.seq ?_ | refine Pw.region ?_ | refine Pw.nil ?_ | refine Pw.then_ ?_ | refine Pw.skip ?_ | refine Pw.block ?_ | refine Pw.exit ?_ | refine Pw.inX ?_ | refine Pw.inN ?_ | refine Pw.inR ?_ | refine Pw.thenX ?_ | refine Pw.thenR ?_ | refine Pw.ret ?_) | refine Pw.list (Pw.pure rfl rfl rfl ?_) | refine Pw.inY rfl ?_ | refine Pw.list (Pw.off rfl rfl ?_) | refine Pw.condT rfl ?_ | refine Pw.condF rfl ?_ | refine Pw.list (Pw.box rfl rfl rfl rfl (fun _ => ?_)) | refine Pw.list (Pw.alloc rfl rfl rfl rfl rfl (fun _ => ?_)) | refine Pw.list (Pw.build rfl rfl rfl rfl ?_) | refine Pw.list (Pw.ld rfl inferInstance rfl rfl rfl ?_) | refine Pw.list (Pw.sto rfl rfl inferInstance rfl rfl rfl rfl rfl inferInstance rfl ?_))
      refine Pw.list (Pw.call d2 rfl rfl rfl (by kernel_rfl) rfl rfl (fun w h => ⟨fact3 h, fact1 h⟩) ?_)
      intro z2 _
      repeat (first | (with_reducible first | refine Pw.seq ?_ | refine Pw.region ?_ | refine Pw.nil ?_ | refine Pw.then_ ?_ | refine Pw.skip ?_ | refine Pw.block ?_ | refine Pw.exit ?_ | refine Pw.inX ?_ | refine Pw.inN ?_ | refine Pw.inR ?_ | refine Pw.thenX ?_ | refine Pw.thenR ?_ | refine Pw.ret ?_) | refine Pw.list (Pw.pure rfl rfl rfl ?_) | refine Pw.inY rfl ?_ | refine Pw.list (Pw.off rfl rfl ?_) | refine Pw.condT rfl ?_ | refine Pw.condF rfl ?_ | refine Pw.list (Pw.box rfl rfl rfl rfl (fun _ => ?_)) | refine Pw.list (Pw.alloc rfl rfl rfl rfl rfl (fun _ => ?_)) | refine Pw.list (Pw.build rfl rfl rfl rfl ?_) | refine Pw.list (Pw.ld rfl inferInstance rfl rfl rfl ?_) | refine Pw.list (Pw.sto rfl rfl inferInstance rfl rfl rfl rfl rfl inferInstance rfl ?_))
      exact Pw.ret_ (x := (z1.1, z2.1)) (.cell rfl (fun w hs => hs.own _ (.head _)) rfl (.tmp rfl .nil)) rfl trivial (fun w h => ⟨(fact1 h).1, (fact0 h).1⟩)
  · have eg : gcdS a b = ([], 1) := if_neg h
    rw [eg] at hc
    rw [if_neg h]
    repeat (first | (with_reducible first | refine Pw.seq ?_ | refine Pw.region ?_ | refine Pw.nil ?_ | refine Pw.then_ ?_ | refine Pw.skip ?_ | refine Pw.block ?_ | refine Pw.exit ?_ | refine Pw.inX ?_ | refine Pw.inN ?_ | refine Pw.inR ?_ | refine Pw.thenX ?_ | refine Pw.thenR ?_ | refine Pw.ret ?_) | refine Pw.list (Pw.pure rfl rfl rfl ?_) | refine Pw.inY rfl ?_ | refine Pw.list (Pw.off rfl rfl ?_) | refine Pw.condT rfl ?_ | refine Pw.condF rfl ?_ | refine Pw.list (Pw.box rfl rfl rfl rfl (fun _ => ?_)) | refine Pw.list (Pw.alloc rfl rfl rfl rfl rfl (fun _ => ?_)) | refine Pw.list (Pw.build rfl rfl rfl rfl ?_) | refine Pw.list (Pw.ld rfl inferInstance rfl rfl rfl ?_) | refine Pw.list (Pw.sto rfl rfl inferInstance rfl rfl rfl rfl rfl inferInstance rfl ?_))
    refine Pw.list (Pw.call hc rfl rfl rfl (by kernel_rfl) rfl rfl (fun w h => ⟨fact0 h, fact1 h⟩) ?_)
    intro zg _
    repeat (first | (with_reducible first | refine Pw.seq ?_ | refine Pw.region ?_ | refine Pw.nil ?_ | refine Pw.then_ ?_ | refine Pw.skip ?_ | refine Pw.block ?_ | refine Pw.exit ?_ | refine Pw.inX ?_ | refine Pw.inN ?_ | refine Pw.inR ?_ | refine Pw.thenX ?_ | refine Pw.thenR ?_ | refine Pw.ret ?_) | refine Pw.list (Pw.pure rfl rfl rfl ?_) | refine Pw.inY rfl ?_ | refine Pw.list (Pw.off rfl rfl ?_) | refine Pw.condT rfl ?_ | refine Pw.condF rfl ?_ | refine Pw.list (Pw.box rfl rfl rfl rfl (fun _ => ?_)) | refine Pw.list (Pw.alloc rfl rfl rfl rfl rfl (fun _ => ?_)) | refine Pw.list (Pw.build rfl rfl rfl rfl ?_) | refine Pw.list (Pw.ld rfl inferInstance rfl rfl rfl ?_) | refine Pw.list (Pw.sto rfl rfl inferInstance rfl rfl rfl rfl rfl inferInstance rfl ?_))
    exact Pw.ret_ (x := z0) (.cell rfl (fun w hs => hs.own _ (.head _)) rfl (.tmp rfl .nil)) rfl trivial (fun w h => R2.nil w)
theorem rat_Of_ct (n d : Int) :
    Ct Try.prog 18 #[.int .u64 n, .int .u64 d] (fun _ => True) (fun z : Z2 => .tuple #[rt (makeS (ofN n) (ofN d)).1 (makeS (ofN n) (ofN d)).2.1 z, .int .i64 (makeS (ofN n) (ofN d)).2.2]) Tt (fun z => R2 (makeS (ofN n) (ofN d)).1 (makeS (ofN n) (ofN d)).2.1 z) := by
  have l1 := ofN_len n; have l2 := ofN_len d
  refine Ct.start Try.func18 rfl rfl (slots_of rfl slots2) (fun D w0 => ?_)
  repeat (first | (with_reducible first | refine Pw.seq ?_ | refine Pw.region ?_ | refine Pw.nil ?_ | refine Pw.then_ ?_ | refine Pw.skip ?_ | refine Pw.block ?_ | refine Pw.exit ?_ | refine Pw.inX ?_ | refine Pw.inN ?_ | refine Pw.inR ?_ | refine Pw.thenX ?_ | refine Pw.thenR ?_ | refine Pw.ret ?_) | refine Pw.list (Pw.pure rfl rfl rfl ?_) | refine Pw.inY rfl ?_ | refine Pw.list (Pw.off rfl rfl ?_) | refine Pw.condT rfl ?_ | refine Pw.condF rfl ?_ | refine Pw.list (Pw.box rfl rfl rfl rfl (fun _ => ?_)) | refine Pw.list (Pw.alloc rfl rfl rfl rfl rfl (fun _ => ?_)) | refine Pw.list (Pw.build rfl rfl rfl rfl ?_) | refine Pw.list (Pw.ld rfl inferInstance rfl rfl rfl ?_) | refine Pw.list (Pw.sto rfl rfl inferInstance rfl rfl rfl rfl rfl inferInstance rfl ?_))
  refine Pw.list (Pw.call (Of_ct n) rfl rfl rfl (by kernel_rfl) rfl rfl (fun w h => trivial) ?_)
  intro z1 _
  repeat (first | (with_reducible first | refine Pw.seq ?_ | refine Pw.region ?_ | refine Pw.nil ?_ | refine Pw.then_ ?_ | refine Pw.skip ?_ | refine Pw.block ?_ | refine Pw.exit ?_ | refine Pw.inX ?_ | refine Pw.inN ?_ | refine Pw.inR ?_ | refine Pw.thenX ?_ | refine Pw.thenR ?_ | refine Pw.ret ?_) | refine Pw.list (Pw.pure rfl rfl rfl ?_) | refine Pw.inY rfl ?_ | refine Pw.list (Pw.off rfl rfl ?_) | refine Pw.condT rfl ?_ | refine Pw.condF rfl ?_ | refine Pw.list (Pw.box rfl rfl rfl rfl (fun _ => ?_)) | refine Pw.list (Pw.alloc rfl rfl rfl rfl rfl (fun _ => ?_)) | refine Pw.list (Pw.build rfl rfl rfl rfl ?_) | refine Pw.list (Pw.ld rfl inferInstance rfl rfl rfl ?_) | refine Pw.list (Pw.sto rfl rfl inferInstance rfl rfl rfl rfl rfl inferInstance rfl ?_))
  refine Pw.list (Pw.call (Of_ct d) rfl rfl rfl (by kernel_rfl) rfl rfl (fun w h => trivial) ?_)
  intro z2 _
  repeat (first | (with_reducible first | refine Pw.seq ?_ | refine Pw.region ?_ | refine Pw.nil ?_ | refine Pw.then_ ?_ | refine Pw.skip ?_ | refine Pw.block ?_ | refine Pw.exit ?_ | refine Pw.inX ?_ | refine Pw.inN ?_ | refine Pw.inR ?_ | refine Pw.thenX ?_ | refine Pw.thenR ?_ | refine Pw.ret ?_) | refine Pw.list (Pw.pure rfl rfl rfl ?_) | refine Pw.inY rfl ?_ | refine Pw.list (Pw.off rfl rfl ?_) | refine Pw.condT rfl ?_ | refine Pw.condF rfl ?_ | refine Pw.list (Pw.box rfl rfl rfl rfl (fun _ => ?_)) | refine Pw.list (Pw.alloc rfl rfl rfl rfl rfl (fun _ => ?_)) | refine Pw.list (Pw.build rfl rfl rfl rfl ?_) | refine Pw.list (Pw.ld rfl inferInstance rfl rfl rfl ?_) | refine Pw.list (Pw.sto rfl rfl inferInstance rfl rfl rfl rfl rfl inferInstance rfl ?_))
  refine Pw.list (Pw.call (Make_ct (ofN n) (ofN d) z1 z2 (ofN_fm n).1 (ofN_fm d).1 (by omega) (by omega)) rfl rfl rfl (by kernel_rfl) rfl rfl (fun w h => ⟨fact1 h, fact0 h⟩) ?_)
  intro z _
  repeat (first | (with_reducible first | refine Pw.seq ?_ | refine Pw.region ?_ | refine Pw.nil ?_ | refine Pw.then_ ?_ | refine Pw.skip ?_ | refine Pw.block ?_ | refine Pw.exit ?_ | refine Pw.inX ?_ | refine Pw.inN ?_ | refine Pw.inR ?_ | refine Pw.thenX ?_ | refine Pw.thenR ?_ | refine Pw.ret ?_) | refine Pw.list (Pw.pure rfl rfl rfl ?_) | refine Pw.inY rfl ?_ | refine Pw.list (Pw.off rfl rfl ?_) | refine Pw.condT rfl ?_ | refine Pw.condF rfl ?_ | refine Pw.list (Pw.box rfl rfl rfl rfl (fun _ => ?_)) | refine Pw.list (Pw.alloc rfl rfl rfl rfl rfl (fun _ => ?_)) | refine Pw.list (Pw.build rfl rfl rfl rfl ?_) | refine Pw.list (Pw.ld rfl inferInstance rfl rfl rfl ?_) | refine Pw.list (Pw.sto rfl rfl inferInstance rfl rfl rfl rfl rfl inferInstance rfl ?_))
  exact Pw.ret_ (x := z) (.cell rfl (fun w hs => hs.own _ (.head _)) rfl (.tmp rfl .nil)) rfl trivial (fun w h => fact0 h)
end Go.Proofs.Wk
/- Walks of layer 2: formed fractions; what makes products. -/
namespace Go.Proofs.Wk
open Go.RowKit
set_option maxRecDepth 100000
attribute [local irreducible] Pw OpG
set_option linter.unusedVariables false
set_option linter.unusedSimpArgs false
theorem one_ct (a : List Int) (x : Option Addr × Nat) (ha : Fm a) : Ct Try.prog 63 #[sl a x] (S1 a x) (fun _ : Unit => .bool (decide (val a = 1))) Tt (fun _ _ => True) := by
  obtain ⟨A, c⟩ := x
  refine Ct.start Try.func63 rfl rfl (slots_of rfl slots1) (fun D w0 => ?_)
  repeat (first | (with_reducible first | refine Pw.seq ?_ | refine Pw.region ?_ | refine Pw.nil ?_ | refine Pw.then_ ?_ | refine Pw.skip ?_ | refine Pw.block ?_ | refine Pw.exit ?_ | refine Pw.inX ?_ | refine Pw.inN ?_ | refine Pw.inR ?_ | refine Pw.thenX ?_ | refine Pw.thenR ?_ | refine Pw.ret ?_) | refine Pw.list (Pw.pure rfl rfl rfl ?_) | refine Pw.inY rfl ?_ | refine Pw.list (Pw.off rfl rfl ?_) | refine Pw.condT rfl ?_ | refine Pw.condF rfl ?_)
  refine Pw.split 6 rfl (fun c1 => ?_) (fun c1 => ?_)
  · obtain ⟨v, rfl⟩ : ∃ v, a = [v] := List.length_eq_one_iff.1 (by omega)
    refine Pw.use (p := A.isSome = true) (fun w h => (fact0 h).has (i := 0) (by omega) (by simp)) (fun hA => ?_)
    obtain ⟨ad, rfl⟩ := some_of hA
    repeat (first | (with_reducible first | refine Pw.seq ?_ | refine Pw.region ?_ | refine Pw.nil ?_ | refine Pw.then_ ?_ | refine Pw.skip ?_ | refine Pw.block ?_ | refine Pw.exit ?_ | refine Pw.inX ?_ | refine Pw.inN ?_ | refine Pw.inR ?_ | refine Pw.thenX ?_ | refine Pw.thenR ?_ | refine Pw.ret ?_) | refine Pw.list (Pw.pure rfl rfl rfl ?_) | refine Pw.inY rfl ?_ | refine Pw.list (Pw.off rfl rfl ?_) | refine Pw.condT rfl ?_ | refine Pw.condF rfl ?_)
    refine Pw.list (Pw.indexS rfl rfl rfl rfl (Int.le_refl 0) (by show (0 : Int) < 1; omega) rfl rfl ?_)
    refine Pw.list (Pw.load1 rfl rfl (fun w hs => (fact0 hs.all).cell (i := 0) (Int.le_refl 0) (by show (0 : Int) < 1; omega)) rfl rfl ?_)
    repeat (first | (with_reducible first | refine Pw.seq ?_ | refine Pw.region ?_ | refine Pw.nil ?_ | refine Pw.then_ ?_ | refine Pw.skip ?_ | refine Pw.block ?_ | refine Pw.exit ?_ | refine Pw.inX ?_ | refine Pw.inN ?_ | refine Pw.inR ?_ | refine Pw.thenX ?_ | refine Pw.thenR ?_ | refine Pw.ret ?_) | refine Pw.list (Pw.pure rfl rfl rfl ?_) | refine Pw.inY rfl ?_ | refine Pw.list (Pw.off rfl rfl ?_) | refine Pw.condT rfl ?_ | refine Pw.condF rfl ?_)
    exact Pw.ret_ (x := ()) (.tmp rfl .nil) (congrArg Value.bool (decide_eq_decide.2 (by rw [show val [v] = v by simp [val]]; rfl))) trivial (fun w h => by trivial)
  · have hne : val a ≠ 1 := fun e => c1 (by rw [ha.natL, e, natL_one]; rfl)
    repeat (first | (with_reducible first | refine Pw.seq ?_ | refine Pw.region ?_ | refine Pw.nil ?_ | refine Pw.then_ ?_ | refine Pw.skip ?_ | refine Pw.block ?_ | refine Pw.exit ?_ | refine Pw.inX ?_ | refine Pw.inN ?_ | refine Pw.inR ?_ | refine Pw.thenX ?_ | refine Pw.thenR ?_ | refine Pw.ret ?_) | refine Pw.list (Pw.pure rfl rfl rfl ?_) | refine Pw.inY rfl ?_ | refine Pw.list (Pw.off rfl rfl ?_) | refine Pw.condT rfl ?_ | refine Pw.condF rfl ?_)
    exact Pw.ret_ (x := ()) (.tmp rfl .nil) (by rw [decide_eq_false hne]; rfl) trivial (fun w h => by trivial)
theorem rat_Formed_ct (a b : List Int) (z : Z2) (ha : Lm a) (hb : Lm b) (hl : a.length < 1048576) (hl' : b.length < 1048576) :
    Ct Try.prog 28 #[rt a b z] (R2 a b z) (fun _ : Unit => .bool (formedR a b)) Tt (fun _ _ => True) := by
  have hc := Gcd_ct a b z.1 z.2 ha hb hl hl'
  refine Ct.start Try.func28 rfl rfl (slots_of rfl slots1) (fun D w0 => ?_)
  unfold formedR
  by_cases h : fmB a = true ∧ fmB b = true
  · have eg : gcdS a b = (natL (gcdI (val a) (val b)), 0) := if_pos h
    rw [eg] at hc
    rw [h.1, h.2]
    repeat (first | (with_reducible first | refine Pw.seq ?_ | refine Pw.region ?_ | refine Pw.nil ?_ | refine Pw.then_ ?_ | refine Pw.skip ?_ | refine Pw.block ?_ | refine Pw.exit ?_ | refine Pw.inX ?_ | refine Pw.inN ?_ | refine Pw.inR ?_ | refine Pw.thenX ?_ | refine Pw.thenR ?_ | refine Pw.ret ?_) | refine Pw.list (Pw.pure rfl rfl rfl ?_) | refine Pw.inY rfl ?_ | refine Pw.list (Pw.off rfl rfl ?_) | refine Pw.condT rfl ?_ | refine Pw.condF rfl ?_ | refine Pw.list (Pw.box rfl rfl rfl rfl (fun _ => ?_)) | refine Pw.list (Pw.alloc rfl rfl rfl rfl rfl (fun _ => ?_)) | refine Pw.list (Pw.build rfl rfl rfl rfl ?_) | refine Pw.list (Pw.ld rfl inferInstance rfl rfl rfl ?_) | refine Pw.list (Pw.sto rfl rfl inferInstance rfl rfl rfl rfl rfl inferInstance rfl ?_))
    refine Pw.list (Pw.call hc rfl rfl rfl (by kernel_rfl) rfl rfl (fun w h => fact0 h) ?_)
    intro zg _
    repeat (first | (with_reducible first | refine Pw.seq ?_ | refine Pw.region ?_ | refine Pw.nil ?_ | refine Pw.then_ ?_ | refine Pw.skip ?_ | refine Pw.block ?_ | refine Pw.exit ?_ | refine Pw.inX ?_ | refine Pw.inN ?_ | refine Pw.inR ?_ | refine Pw.thenX ?_ | refine Pw.thenR ?_ | refine Pw.ret ?_) | refine Pw.list (Pw.pure rfl rfl rfl ?_) | refine Pw.inY rfl ?_ | refine Pw.list (Pw.off rfl rfl ?_) | refine Pw.condT rfl ?_ | refine Pw.condF rfl ?_ | refine Pw.list (Pw.box rfl rfl rfl rfl (fun _ => ?_)) | refine Pw.list (Pw.alloc rfl rfl rfl rfl rfl (fun _ => ?_)) | refine Pw.list (Pw.build rfl rfl rfl rfl ?_) | refine Pw.list (Pw.ld rfl inferInstance rfl rfl rfl ?_) | refine Pw.list (Pw.sto rfl rfl inferInstance rfl rfl rfl rfl rfl inferInstance rfl ?_))
    refine Pw.split 21 rfl (fun c1 => ?_) (fun c1 => ?_)
    · repeat (first | (with_reducible first | refine Pw.seq ?_ | refine Pw.region ?_ | refine Pw.nil ?_ | refine Pw.then_ ?_ | refine Pw.skip ?_ | refine Pw.block ?_ | refine Pw.exit ?_ | refine Pw.inX ?_ | refine Pw.inN ?_ | refine Pw.inR ?_ | refine Pw.thenX ?_ | refine Pw.thenR ?_ | refine Pw.ret ?_) | refine Pw.list (Pw.pure rfl rfl rfl ?_) | refine Pw.inY rfl ?_ | refine Pw.list (Pw.off rfl rfl ?_) | refine Pw.condT rfl ?_ | refine Pw.condF rfl ?_ | refine Pw.list (Pw.box rfl rfl rfl rfl (fun _ => ?_)) | refine Pw.list (Pw.alloc rfl rfl rfl rfl rfl (fun _ => ?_)) | refine Pw.list (Pw.build rfl rfl rfl rfl ?_) | refine Pw.list (Pw.ld rfl inferInstance rfl rfl rfl ?_) | refine Pw.list (Pw.sto rfl rfl inferInstance rfl rfl rfl rfl rfl inferInstance rfl ?_))
      have ho := one_ct (natL (gcdI (val a) (val b))) zg (natL_fm _)
      rw [val_natL (gcdI_nonneg _ _)] at ho
      refine Pw.list (Pw.call ho rfl rfl rfl (by kernel_rfl) rfl rfl (fun w h => fact0 h) ?_)
      intro _ _
      repeat (first | (with_reducible first | refine Pw.seq ?_ | refine Pw.region ?_ | refine Pw.nil ?_ | refine Pw.then_ ?_ | refine Pw.skip ?_ | refine Pw.block ?_ | refine Pw.exit ?_ | refine Pw.inX ?_ | refine Pw.inN ?_ | refine Pw.inR ?_ | refine Pw.thenX ?_ | refine Pw.thenR ?_ | refine Pw.ret ?_) | refine Pw.list (Pw.pure rfl rfl rfl ?_) | refine Pw.inY rfl ?_ | refine Pw.list (Pw.off rfl rfl ?_) | refine Pw.condT rfl ?_ | refine Pw.condF rfl ?_ | refine Pw.list (Pw.box rfl rfl rfl rfl (fun _ => ?_)) | refine Pw.list (Pw.alloc rfl rfl rfl rfl rfl (fun _ => ?_)) | refine Pw.list (Pw.build rfl rfl rfl rfl ?_) | refine Pw.list (Pw.ld rfl inferInstance rfl rfl rfl ?_) | refine Pw.list (Pw.sto rfl rfl inferInstance rfl rfl rfl rfl rfl inferInstance rfl ?_))
      have h0 : 0 < b.length := by omega
      exact Pw.ret_ (x := ()) (.tmp rfl .nil) (by rw [decide_eq_true h0]; rfl) trivial (fun w h => by trivial)
    · repeat (first | (with_reducible first | refine Pw.seq ?_ | refine Pw.region ?_ | refine Pw.nil ?_ | refine Pw.then_ ?_ | refine Pw.skip ?_ | refine Pw.block ?_ | refine Pw.exit ?_ | refine Pw.inX ?_ | refine Pw.inN ?_ | refine Pw.inR ?_ | refine Pw.thenX ?_ | refine Pw.thenR ?_ | refine Pw.ret ?_) | refine Pw.list (Pw.pure rfl rfl rfl ?_) | refine Pw.inY rfl ?_ | refine Pw.list (Pw.off rfl rfl ?_) | refine Pw.condT rfl ?_ | refine Pw.condF rfl ?_ | refine Pw.list (Pw.box rfl rfl rfl rfl (fun _ => ?_)) | refine Pw.list (Pw.alloc rfl rfl rfl rfl rfl (fun _ => ?_)) | refine Pw.list (Pw.build rfl rfl rfl rfl ?_) | refine Pw.list (Pw.ld rfl inferInstance rfl rfl rfl ?_) | refine Pw.list (Pw.sto rfl rfl inferInstance rfl rfl rfl rfl rfl inferInstance rfl ?_))
      have h0 : ¬ 0 < b.length := by omega
      exact Pw.ret_ (x := ()) (.tmp rfl .nil) (by rw [decide_eq_false h0]; rfl) trivial (fun w h => by trivial)
  · have eg : gcdS a b = ([], 1) := if_neg h
    rw [eg] at hc
    have e1 : (fmB a && (fmB b && (decide (0 < b.length) && decide (gcdI (val a) (val b) = 1)))) = false := by
      cases e1 : fmB a <;> cases e2 : fmB b <;> simp_all
    rw [e1]
    repeat (first | (with_reducible first | refine Pw.seq ?_ | refine Pw.region ?_ | refine Pw.nil ?_ | refine Pw.then_ ?_ | refine Pw.skip ?_ | refine Pw.block ?_ | refine Pw.exit ?_ | refine Pw.inX ?_ | refine Pw.inN ?_ | refine Pw.inR ?_ | refine Pw.thenX ?_ | refine Pw.thenR ?_ | refine Pw.ret ?_) | refine Pw.list (Pw.pure rfl rfl rfl ?_) | refine Pw.inY rfl ?_ | refine Pw.list (Pw.off rfl rfl ?_) | refine Pw.condT rfl ?_ | refine Pw.condF rfl ?_ | refine Pw.list (Pw.box rfl rfl rfl rfl (fun _ => ?_)) | refine Pw.list (Pw.alloc rfl rfl rfl rfl rfl (fun _ => ?_)) | refine Pw.list (Pw.build rfl rfl rfl rfl ?_) | refine Pw.list (Pw.ld rfl inferInstance rfl rfl rfl ?_) | refine Pw.list (Pw.sto rfl rfl inferInstance rfl rfl rfl rfl rfl inferInstance rfl ?_))
    refine Pw.list (Pw.call hc rfl rfl rfl (by kernel_rfl) rfl rfl (fun w h => fact0 h) ?_)
    intro zg _
    repeat (first | (with_reducible first | refine Pw.seq ?_ | refine Pw.region ?_ | refine Pw.nil ?_ | refine Pw.then_ ?_ | refine Pw.skip ?_ | refine Pw.block ?_ | refine Pw.exit ?_ | refine Pw.inX ?_ | refine Pw.inN ?_ | refine Pw.inR ?_ | refine Pw.thenX ?_ | refine Pw.thenR ?_ | refine Pw.ret ?_) | refine Pw.list (Pw.pure rfl rfl rfl ?_) | refine Pw.inY rfl ?_ | refine Pw.list (Pw.off rfl rfl ?_) | refine Pw.condT rfl ?_ | refine Pw.condF rfl ?_ | refine Pw.list (Pw.box rfl rfl rfl rfl (fun _ => ?_)) | refine Pw.list (Pw.alloc rfl rfl rfl rfl rfl (fun _ => ?_)) | refine Pw.list (Pw.build rfl rfl rfl rfl ?_) | refine Pw.list (Pw.ld rfl inferInstance rfl rfl rfl ?_) | refine Pw.list (Pw.sto rfl rfl inferInstance rfl rfl rfl rfl rfl inferInstance rfl ?_))
    exact Pw.ret_ (x := ()) (.tmp rfl .nil) rfl trivial (fun w h => by trivial)
theorem rat_formed_ct (a b c d : List Int) (y z : Z2) (ha : Lm a) (hb : Lm b) (hc : Lm c) (hd : Lm d) (la : a.length < 1048576) (lb : b.length < 1048576) (lc : c.length < 1048576) (ld : d.length < 1048576) :
    Ct Try.prog 75 #[rt a b y, rt c d z] (fun W => R2 a b y W ∧ R2 c d z W) (fun _ : Unit => .bool (formedR a b && formedR c d)) Tt (fun _ _ => True) := by
  refine Ct.start Try.func75 rfl rfl (slots_of rfl slots2) (fun D w0 => Pw.facts two2 ?_)
  repeat (first | (with_reducible first | refine Pw.seq ?_ | refine Pw.region ?_ | refine Pw.nil ?_ | refine Pw.then_ ?_ | refine Pw.skip ?_ | refine Pw.block ?_ | refine Pw.exit ?_ | refine Pw.inX ?_ | refine Pw.inN ?_ | refine Pw.inR ?_ | refine Pw.thenX ?_ | refine Pw.thenR ?_ | refine Pw.ret ?_) | refine Pw.list (Pw.pure rfl rfl rfl ?_) | refine Pw.inY rfl ?_ | refine Pw.list (Pw.off rfl rfl ?_) | refine Pw.condT rfl ?_ | refine Pw.condF rfl ?_ | refine Pw.list (Pw.box rfl rfl rfl rfl (fun _ => ?_)) | refine Pw.list (Pw.alloc rfl rfl rfl rfl rfl (fun _ => ?_)) | refine Pw.list (Pw.build rfl rfl rfl rfl ?_) | refine Pw.list (Pw.ld rfl inferInstance rfl rfl rfl ?_) | refine Pw.list (Pw.sto rfl rfl inferInstance rfl rfl rfl rfl rfl inferInstance rfl ?_))
  refine Pw.list (Pw.call (rat_Formed_ct a b y ha hb la lb) rfl rfl rfl (by kernel_rfl) rfl rfl (fun w h => fact0 h) ?_)
  intro _ _
  repeat (first | (with_reducible first | refine Pw.seq ?_ | refine Pw.region ?_ | refine Pw.nil ?_ | refine Pw.then_ ?_ | refine Pw.skip ?_ | refine Pw.block ?_ | refine Pw.exit ?_ | refine Pw.inX ?_ | refine Pw.inN ?_ | refine Pw.inR ?_ | refine Pw.thenX ?_ | refine Pw.thenR ?_ | refine Pw.ret ?_) | refine Pw.list (Pw.pure rfl rfl rfl ?_) | refine Pw.inY rfl ?_ | refine Pw.list (Pw.off rfl rfl ?_) | refine Pw.condT rfl ?_ | refine Pw.condF rfl ?_ | refine Pw.list (Pw.box rfl rfl rfl rfl (fun _ => ?_)) | refine Pw.list (Pw.alloc rfl rfl rfl rfl rfl (fun _ => ?_)) | refine Pw.list (Pw.build rfl rfl rfl rfl ?_) | refine Pw.list (Pw.ld rfl inferInstance rfl rfl rfl ?_) | refine Pw.list (Pw.sto rfl rfl inferInstance rfl rfl rfl rfl rfl inferInstance rfl ?_))
  cases formedR a b
  · repeat (first | (with_reducible first | refine Pw.seq ?_ | refine Pw.region ?_ | refine Pw.nil ?_ | refine Pw.then_ ?_ | refine Pw.skip ?_ | refine Pw.block ?_ | refine Pw.exit ?_ | refine Pw.inX ?_ | refine Pw.inN ?_ | refine Pw.inR ?_ | refine Pw.thenX ?_ | refine Pw.thenR ?_ | refine Pw.ret ?_) | refine Pw.list (Pw.pure rfl rfl rfl ?_) | refine Pw.inY rfl ?_ | refine Pw.list (Pw.off rfl rfl ?_) | refine Pw.condT rfl ?_ | refine Pw.condF rfl ?_ | refine Pw.list (Pw.box rfl rfl rfl rfl (fun _ => ?_)) | refine Pw.list (Pw.alloc rfl rfl rfl rfl rfl (fun _ => ?_)) | refine Pw.list (Pw.build rfl rfl rfl rfl ?_) | refine Pw.list (Pw.ld rfl inferInstance rfl rfl rfl ?_) | refine Pw.list (Pw.sto rfl rfl inferInstance rfl rfl rfl rfl rfl inferInstance rfl ?_))
    exact Pw.ret_ (x := ()) (.tmp rfl .nil) rfl trivial (fun w h => by trivial)
  · repeat (first | (with_reducible first | refine Pw.seq ?_ | refine Pw.region ?_ | refine Pw.nil ?_ | refine Pw.then_ ?_ | refine Pw.skip ?_ | refine Pw.block ?_ | refine Pw.exit ?_ | refine Pw.inX ?_ | refine Pw.inN ?_ | refine Pw.inR ?_ | refine Pw.thenX ?_ | refine Pw.thenR ?_ | refine Pw.ret ?_) | refine Pw.list (Pw.pure rfl rfl rfl ?_) | refine Pw.inY rfl ?_ | refine Pw.list (Pw.off rfl rfl ?_) | refine Pw.condT rfl ?_ | refine Pw.condF rfl ?_ | refine Pw.list (Pw.box rfl rfl rfl rfl (fun _ => ?_)) | refine Pw.list (Pw.alloc rfl rfl rfl rfl rfl (fun _ => ?_)) | refine Pw.list (Pw.build rfl rfl rfl rfl ?_) | refine Pw.list (Pw.ld rfl inferInstance rfl rfl rfl ?_) | refine Pw.list (Pw.sto rfl rfl inferInstance rfl rfl rfl rfl rfl inferInstance rfl ?_))
    refine Pw.list (Pw.call (rat_Formed_ct c d z hc hd lc ld) rfl rfl rfl (by kernel_rfl) rfl rfl (fun w h => fact2 h) ?_)
    intro _ _
    repeat (first | (with_reducible first | refine Pw.seq ?_ | refine Pw.region ?_ | refine Pw.nil ?_ | refine Pw.then_ ?_ | refine Pw.skip ?_ | refine Pw.block ?_ | refine Pw.exit ?_ | refine Pw.inX ?_ | refine Pw.inN ?_ | refine Pw.inR ?_ | refine Pw.thenX ?_ | refine Pw.thenR ?_ | refine Pw.ret ?_) | refine Pw.list (Pw.pure rfl rfl rfl ?_) | refine Pw.inY rfl ?_ | refine Pw.list (Pw.off rfl rfl ?_) | refine Pw.condT rfl ?_ | refine Pw.condF rfl ?_ | refine Pw.list (Pw.box rfl rfl rfl rfl (fun _ => ?_)) | refine Pw.list (Pw.alloc rfl rfl rfl rfl rfl (fun _ => ?_)) | refine Pw.list (Pw.build rfl rfl rfl rfl ?_) | refine Pw.list (Pw.ld rfl inferInstance rfl rfl rfl ?_) | refine Pw.list (Pw.sto rfl rfl inferInstance rfl rfl rfl rfl rfl inferInstance rfl ?_))
    exact Pw.ret_ (x := ()) (.tmp rfl .nil) rfl trivial (fun w h => by trivial)
end Go.Proofs.Wk
/- Walks of layer 2: multiplying, dividing, rounding down. -/
namespace Go.Proofs.Wk
open Go.RowKit
set_option maxRecDepth 100000
attribute [local irreducible] Pw OpG
set_option linter.unusedVariables false
set_option linter.unusedSimpArgs false
abbrev mkO (e : Int) : Obj := row [.int .i64 e] 136
theorem mk_mul_ct (a b : List Int) (x y : Option Addr × Nat) (g : Nat) (e : Int) (ha : Lm a) (hb : Lm b) (hl : a.length < 1048576) (hl' : b.length < 1048576) :
    Ct1 Try.prog 76 #[.pointer (some ⟨g, 0, none⟩), sl a x, sl b y] g (mkO e) (fun W => S1 a x W ∧ S1 b y W) (fun z => sl (mulS a b).1 z) Tt (fun _ => mkO (if e = 0 then (mulS a b).2 else e)) (fun z => S1 (mulS a b).1 z) := by
  refine Ct1.start Try.func76 rfl rfl (slots_of rfl slots3) (fun D w0 hD => Pw.facts two2 ?_)
  repeat (first | (with_reducible first | refine Pw.seq ?_ | refine Pw.region ?_ | refine Pw.nil ?_ | refine Pw.then_ ?_ | refine Pw.skip ?_ | refine Pw.block ?_ | refine Pw.exit ?_ | refine Pw.inX ?_ | refine Pw.inN ?_ | refine Pw.inR ?_ | refine Pw.thenX ?_ | refine Pw.thenR ?_ | refine Pw.ret ?_) | refine Pw.list (Pw.pure rfl rfl rfl ?_) | refine Pw.inY rfl ?_ | refine Pw.list (Pw.off rfl rfl ?_) | refine Pw.condT rfl ?_ | refine Pw.condF rfl ?_ | refine Pw.list (Pw.box rfl rfl rfl rfl (fun _ => ?_)) | refine Pw.list (Pw.alloc rfl rfl rfl rfl rfl (fun _ => ?_)) | refine Pw.list (Pw.build rfl rfl rfl rfl ?_) | refine Pw.list (Pw.ld rfl inferInstance rfl rfl rfl ?_) | refine Pw.list (Pw.sto rfl rfl inferInstance rfl rfl rfl rfl rfl inferInstance rfl ?_))
  refine Pw.list (Pw.call (Mul_ct a b x y ha hb hl hl') rfl rfl rfl (by kernel_rfl) rfl rfl (fun w h => ⟨fact0 h, fact1 h⟩) ?_)
  intro z _
  repeat (first | (with_reducible first | refine Pw.seq ?_ | refine Pw.region ?_ | refine Pw.nil ?_ | refine Pw.then_ ?_ | refine Pw.skip ?_ | refine Pw.block ?_ | refine Pw.exit ?_ | refine Pw.inX ?_ | refine Pw.inN ?_ | refine Pw.inR ?_ | refine Pw.thenX ?_ | refine Pw.thenR ?_ | refine Pw.ret ?_) | refine Pw.list (Pw.pure rfl rfl rfl ?_) | refine Pw.inY rfl ?_ | refine Pw.list (Pw.off rfl rfl ?_) | refine Pw.condT rfl ?_ | refine Pw.condF rfl ?_ | refine Pw.list (Pw.box rfl rfl rfl rfl (fun _ => ?_)) | refine Pw.list (Pw.alloc rfl rfl rfl rfl rfl (fun _ => ?_)) | refine Pw.list (Pw.build rfl rfl rfl rfl ?_) | refine Pw.list (Pw.ld rfl inferInstance rfl rfl rfl ?_) | refine Pw.list (Pw.sto rfl rfl inferInstance rfl rfl rfl rfl rfl inferInstance rfl ?_))
  refine Pw.condD rfl (fun c1 => ?_) (fun c1 => ?_)
  · simp only [if_pos c1]
    repeat (first | (with_reducible first | refine Pw.seq ?_ | refine Pw.region ?_ | refine Pw.nil ?_ | refine Pw.then_ ?_ | refine Pw.skip ?_ | refine Pw.block ?_ | refine Pw.exit ?_ | refine Pw.inX ?_ | refine Pw.inN ?_ | refine Pw.inR ?_ | refine Pw.thenX ?_ | refine Pw.thenR ?_ | refine Pw.ret ?_) | refine Pw.list (Pw.pure rfl rfl rfl ?_) | refine Pw.inY rfl ?_ | refine Pw.list (Pw.off rfl rfl ?_) | refine Pw.condT rfl ?_ | refine Pw.condF rfl ?_ | refine Pw.list (Pw.box rfl rfl rfl rfl (fun _ => ?_)) | refine Pw.list (Pw.alloc rfl rfl rfl rfl rfl (fun _ => ?_)) | refine Pw.list (Pw.build rfl rfl rfl rfl ?_) | refine Pw.list (Pw.ld rfl inferInstance rfl rfl rfl ?_) | refine Pw.list (Pw.sto rfl rfl inferInstance rfl rfl rfl rfl rfl inferInstance rfl ?_))
    exact Pw.ret1 (x := z) hD (.head _) (.tmp rfl .nil) rfl trivial (fun w h => fact0 h)
  · simp only [if_neg c1]
    repeat (first | (with_reducible first | refine Pw.seq ?_ | refine Pw.region ?_ | refine Pw.nil ?_ | refine Pw.then_ ?_ | refine Pw.skip ?_ | refine Pw.block ?_ | refine Pw.exit ?_ | refine Pw.inX ?_ | refine Pw.inN ?_ | refine Pw.inR ?_ | refine Pw.thenX ?_ | refine Pw.thenR ?_ | refine Pw.ret ?_) | refine Pw.list (Pw.pure rfl rfl rfl ?_) | refine Pw.inY rfl ?_ | refine Pw.list (Pw.off rfl rfl ?_) | refine Pw.condT rfl ?_ | refine Pw.condF rfl ?_ | refine Pw.list (Pw.box rfl rfl rfl rfl (fun _ => ?_)) | refine Pw.list (Pw.alloc rfl rfl rfl rfl rfl (fun _ => ?_)) | refine Pw.list (Pw.build rfl rfl rfl rfl ?_) | refine Pw.list (Pw.ld rfl inferInstance rfl rfl rfl ?_) | refine Pw.list (Pw.sto rfl rfl inferInstance rfl rfl rfl rfl rfl inferInstance rfl ?_))
    exact Pw.ret1 (x := z) hD (.head _) (.tmp rfl .nil) rfl trivial (fun w h => fact0 h)
theorem mk_mul0_ct (a b : List Int) (x y : Option Addr × Nat) (g : Nat) (ha : Lm a) (hb : Lm b) (hl : a.length < 1048576) (hl' : b.length < 1048576) :
    Ct1 Try.prog 76 #[.pointer (some ⟨g, 0, none⟩), sl a x, sl b y] g (mkO 0) (fun W => S1 a x W ∧ S1 b y W) (fun z => sl (mulS a b).1 z) Tt (fun _ => mkO (mulS a b).2) (fun z => S1 (mulS a b).1 z) := by
  have := mk_mul_ct a b x y g 0 ha hb hl hl'
  rw [if_pos rfl] at this
  exact this
def endS (e e' : Int) (a b : List Int) : List Int × List Int × Int := if e ≠ 0 then ([], [], e) else if e' ≠ 0 then ([], [], e') else makeS a b
theorem mk_end_ct (a b : List Int) (x y : Option Addr × Nat) (g : Nat) (e e' : Int) (ha : Lm a) (hb : Lm b) (hl : a.length < 1048576) (hl' : b.length < 1048576) :
    Ct Try.prog 82 #[.pointer (some ⟨g, 0, none⟩), sl a x, sl b y, .int .i64 e'] (fun W => W.heap[g]? = some (mkO e) ∧ S1 a x W ∧ S1 b y W) (fun z : Z2 => .tuple #[rt (endS e e' a b).1 (endS e e' a b).2.1 z, .int .i64 (endS e e' a b).2.2]) Tt (fun z => R2 (endS e e' a b).1 (endS e e' a b).2.1 z) := by
  refine Ct.start Try.func82 rfl rfl (slots_of rfl slots4) (fun D w0 => Pw.facts (G' := [fun W => W.heap[g]? = some (mkO e), S1 a x, S1 b y]) (fun w h => allCons (fact0 h).1 (allCons (fact0 h).2.1 (allCons (fact0 h).2.2 allNil))) ?_)
  unfold endS
  repeat (first | (with_reducible first | refine Pw.seq ?_ | refine Pw.region ?_ | refine Pw.nil ?_ | refine Pw.then_ ?_ | refine Pw.skip ?_ | refine Pw.block ?_ | refine Pw.exit ?_ | refine Pw.inX ?_ | refine Pw.inN ?_ | refine Pw.inR ?_ | refine Pw.thenX ?_ | refine Pw.thenR ?_ | refine Pw.ret ?_) | refine Pw.list (Pw.pure rfl rfl rfl ?_) | refine Pw.inY rfl ?_ | refine Pw.list (Pw.off rfl rfl ?_) | refine Pw.condT rfl ?_ | refine Pw.condF rfl ?_ | refine Pw.list (Pw.box rfl rfl rfl rfl (fun _ => ?_)) | refine Pw.list (Pw.alloc rfl rfl rfl rfl rfl (fun _ => ?_)) | refine Pw.list (Pw.build rfl rfl rfl rfl ?_) | refine Pw.list (Pw.ld rfl inferInstance rfl rfl rfl ?_) | refine Pw.list (Pw.sto rfl rfl inferInstance rfl rfl rfl rfl rfl inferInstance rfl ?_))
  refine Pw.condD rfl (fun c1 => ?_) (fun c1 => ?_)
  · rw [if_pos c1]
    repeat (first | (with_reducible first | refine Pw.seq ?_ | refine Pw.region ?_ | refine Pw.nil ?_ | refine Pw.then_ ?_ | refine Pw.skip ?_ | refine Pw.block ?_ | refine Pw.exit ?_ | refine Pw.inX ?_ | refine Pw.inN ?_ | refine Pw.inR ?_ | refine Pw.thenX ?_ | refine Pw.thenR ?_ | refine Pw.ret ?_) | refine Pw.list (Pw.pure rfl rfl rfl ?_) | refine Pw.inY rfl ?_ | refine Pw.list (Pw.off rfl rfl ?_) | refine Pw.condT rfl ?_ | refine Pw.condF rfl ?_ | refine Pw.list (Pw.box rfl rfl rfl rfl (fun _ => ?_)) | refine Pw.list (Pw.alloc rfl rfl rfl rfl rfl (fun _ => ?_)) | refine Pw.list (Pw.build rfl rfl rfl rfl ?_) | refine Pw.list (Pw.ld rfl inferInstance rfl rfl rfl ?_) | refine Pw.list (Pw.sto rfl rfl inferInstance rfl rfl rfl rfl rfl inferInstance rfl ?_))
    refine Pw.drawnG mixed rfl rfl ?_
    refine Pw.takeBuild 0 (nb 7 1) rfl rfl rfl rfl rfl (by kernel_rfl) np sf ?_
    refine Pw.takeP 1 (nb 7 3) rfl rfl rfl rfl (by kernel_rfl) np sf ?_
    refine Pw.takeP 2 (nb 7 7) rfl rfl rfl rfl (by kernel_rfl) np sf ?_
    refine Pw.takeP 3 (nb 7 15) rfl rfl rfl rfl (by kernel_rfl) np sf ?_
    refine Pw.takeF 4 (nb 7 31) rfl rfl inferInstance rfl rfl rfl (by kernel_rfl) np sf ?_
    refine Pw.one 5 (nb 7 63) rfl (by kernel_rfl) ?_
    -- eff Op.store 39 (Operand.tmp 8) (Operand.tmp 15)
    refine Pw.storeB rfl rfl .head rfl rfl rfl rfl rfl rfl (Pw.held (fun w h => h.all) ?_)
    refine Pw.takeP 6 (nb 7 127) rfl rfl rfl rfl (by kernel_rfl) np sf ?_
    refine Pw.done (by kernel_rfl) ?_
    repeat (first | (with_reducible first | refine Pw.seq ?_ | refine Pw.region ?_ | refine Pw.nil ?_ | refine Pw.then_ ?_ | refine Pw.skip ?_ | refine Pw.block ?_ | refine Pw.exit ?_ | refine Pw.inX ?_ | refine Pw.inN ?_ | refine Pw.inR ?_ | refine Pw.thenX ?_ | refine Pw.thenR ?_ | refine Pw.ret ?_) | refine Pw.list (Pw.pure rfl rfl rfl ?_) | refine Pw.inY rfl ?_ | refine Pw.list (Pw.off rfl rfl ?_) | refine Pw.condT rfl ?_ | refine Pw.condF rfl ?_)
    exact Pw.ret_ (x := z0) (.cell rfl (fun w hs => hs.own _ (.head _)) rfl (.tmp rfl .nil)) rfl trivial (fun w h => R2.nil w)
  · rw [if_neg c1]
    repeat (first | (with_reducible first | refine Pw.seq ?_ | refine Pw.region ?_ | refine Pw.nil ?_ | refine Pw.then_ ?_ | refine Pw.skip ?_ | refine Pw.block ?_ | refine Pw.exit ?_ | refine Pw.inX ?_ | refine Pw.inN ?_ | refine Pw.inR ?_ | refine Pw.thenX ?_ | refine Pw.thenR ?_ | refine Pw.ret ?_) | refine Pw.list (Pw.pure rfl rfl rfl ?_) | refine Pw.inY rfl ?_ | refine Pw.list (Pw.off rfl rfl ?_) | refine Pw.condT rfl ?_ | refine Pw.condF rfl ?_ | refine Pw.list (Pw.box rfl rfl rfl rfl (fun _ => ?_)) | refine Pw.list (Pw.alloc rfl rfl rfl rfl rfl (fun _ => ?_)) | refine Pw.list (Pw.build rfl rfl rfl rfl ?_) | refine Pw.list (Pw.ld rfl inferInstance rfl rfl rfl ?_) | refine Pw.list (Pw.sto rfl rfl inferInstance rfl rfl rfl rfl rfl inferInstance rfl ?_))
    refine Pw.condD rfl (fun c2 => ?_) (fun c2 => ?_)
    · rw [if_pos c2]
      repeat (first | (with_reducible first | refine Pw.seq ?_ | refine Pw.region ?_ | refine Pw.nil ?_ | refine Pw.then_ ?_ | refine Pw.skip ?_ | refine Pw.block ?_ | refine Pw.exit ?_ | refine Pw.inX ?_ | refine Pw.inN ?_ | refine Pw.inR ?_ | refine Pw.thenX ?_ | refine Pw.thenR ?_ | refine Pw.ret ?_) | refine Pw.list (Pw.pure rfl rfl rfl ?_) | refine Pw.inY rfl ?_ | refine Pw.list (Pw.off rfl rfl ?_) | refine Pw.condT rfl ?_ | refine Pw.condF rfl ?_ | refine Pw.list (Pw.box rfl rfl rfl rfl (fun _ => ?_)) | refine Pw.list (Pw.alloc rfl rfl rfl rfl rfl (fun _ => ?_)) | refine Pw.list (Pw.build rfl rfl rfl rfl ?_) | refine Pw.list (Pw.ld rfl inferInstance rfl rfl rfl ?_) | refine Pw.list (Pw.sto rfl rfl inferInstance rfl rfl rfl rfl rfl inferInstance rfl ?_))
      exact Pw.ret_ (x := z0) (.cell rfl (fun w hs => hs.own _ (.head _)) rfl (.tmp rfl .nil)) rfl trivial (fun w h => R2.nil w)
    · rw [if_neg c2]
      repeat (first | (with_reducible first | refine Pw.seq ?_ | refine Pw.region ?_ | refine Pw.nil ?_ | refine Pw.then_ ?_ | refine Pw.skip ?_ | refine Pw.block ?_ | refine Pw.exit ?_ | refine Pw.inX ?_ | refine Pw.inN ?_ | refine Pw.inR ?_ | refine Pw.thenX ?_ | refine Pw.thenR ?_ | refine Pw.ret ?_) | refine Pw.list (Pw.pure rfl rfl rfl ?_) | refine Pw.inY rfl ?_ | refine Pw.list (Pw.off rfl rfl ?_) | refine Pw.condT rfl ?_ | refine Pw.condF rfl ?_ | refine Pw.list (Pw.box rfl rfl rfl rfl (fun _ => ?_)) | refine Pw.list (Pw.alloc rfl rfl rfl rfl rfl (fun _ => ?_)) | refine Pw.list (Pw.build rfl rfl rfl rfl ?_) | refine Pw.list (Pw.ld rfl inferInstance rfl rfl rfl ?_) | refine Pw.list (Pw.sto rfl rfl inferInstance rfl rfl rfl rfl rfl inferInstance rfl ?_))
      refine Pw.list (Pw.call (Make_ct a b x y ha hb hl hl') rfl rfl rfl (by kernel_rfl) rfl rfl (fun w h => ⟨fact1 h, fact2 h⟩) ?_)
      intro z _
      repeat (first | (with_reducible first | refine Pw.seq ?_ | refine Pw.region ?_ | refine Pw.nil ?_ | refine Pw.then_ ?_ | refine Pw.skip ?_ | refine Pw.block ?_ | refine Pw.exit ?_ | refine Pw.inX ?_ | refine Pw.inN ?_ | refine Pw.inR ?_ | refine Pw.thenX ?_ | refine Pw.thenR ?_ | refine Pw.ret ?_) | refine Pw.list (Pw.pure rfl rfl rfl ?_) | refine Pw.inY rfl ?_ | refine Pw.list (Pw.off rfl rfl ?_) | refine Pw.condT rfl ?_ | refine Pw.condF rfl ?_ | refine Pw.list (Pw.box rfl rfl rfl rfl (fun _ => ?_)) | refine Pw.list (Pw.alloc rfl rfl rfl rfl rfl (fun _ => ?_)) | refine Pw.list (Pw.build rfl rfl rfl rfl ?_) | refine Pw.list (Pw.ld rfl inferInstance rfl rfl rfl ?_) | refine Pw.list (Pw.sto rfl rfl inferInstance rfl rfl rfl rfl rfl inferInstance rfl ?_))
      exact Pw.ret_ (x := z) (.cell rfl (fun w hs => hs.own _ (.head _)) rfl (.tmp rfl .nil)) rfl trivial (fun w h => fact0 h)
theorem mulS_lm {a b : List Int} : Fm (mulS a b).1 ∧ (mulS a b).1.length ≤ 400 := by
  unfold mulS
  split
  · unfold fitN
    split
    next h => exact ⟨natL_fm _, h⟩
    next h => exact ⟨by rw [← natL_zero]; exact natL_fm 0, by simp⟩
  · exact ⟨by rw [← natL_zero]; exact natL_fm 0, by simp⟩
end Go.Proofs.Wk
/- Walks of layer 2: dividing, rounding down, comparing. -/
namespace Go.Proofs.Wk
open Go.RowKit
set_option maxRecDepth 100000
attribute [local irreducible] Pw OpG
set_option linter.unusedVariables false
set_option linter.unusedSimpArgs false
theorem formedR_spec {a b : List Int} (ha : Lm a) (hb : Lm b) (h : formedR a b = true) : fmB a = true ∧ fmB b = true ∧ 0 < b.length ∧ gcdI (val a) (val b) = 1 := by
  unfold formedR at h
  simpa using h
end Go.Proofs.Wk
/- Walks of layer 2: adding, subtracting, the lesser one. -/
namespace Go.Proofs.Wk
open Go.RowKit
set_option maxRecDepth 100000
attribute [local irreducible] Pw OpG
set_option linter.unusedVariables false
set_option linter.unusedSimpArgs false
def err3 (x y z : Int) : Int := if (if x = 0 then y else x) = 0 then z else (if x = 0 then y else x)
def joinS (S : List Int → List Int → List Int × Int) (a b c d : List Int) : List Int × List Int × Int := if (formedR a b && formedR c d) = true then endS (err3 (mulS a d).2 (mulS c b).2 (mulS b d).2) (S (mulS a d).1 (mulS c b).1).2 (S (mulS a d).1 (mulS c b).1).1 (mulS b d).1 else ([], [], 1)
theorem join_ct (S : List Int → List Int → List Int × Int) (f : FuncId) (hS : ∀ u v x y, Lm u → Lm v → u.length < 1048576 → v.length < 1048576 → Ct Try.prog f #[sl u x, sl v y] (fun W => S1 u x W ∧ S1 v y W) (fun z : Option Addr × Nat => .tuple #[sl (S u v).1 z, .int .i64 (S u v).2]) Tt (fun z => S1 (S u v).1 z)) (hf : callB Try.prog f = true) (hlm : ∀ u v, Lm u → Lm v → Fm (S u v).1 ∧ (u.length ≤ 400 → v.length ≤ 400 → (S u v).1.length < 1048576))
    (a b c d : List Int) (y z : Z2) (ha : Lm a) (hb : Lm b) (hc : Lm c) (hd : Lm d) (la : a.length < 1048576) (lb : b.length < 1048576) (lc : c.length < 1048576) (ld : d.length < 1048576) :
    Ct Try.prog 52 #[rt a b y, rt c d z, .func (.func f) #[] #[]] (fun W => R2 a b y W ∧ R2 c d z W) (fun x : Z2 => .tuple #[rt (joinS S a b c d).1 (joinS S a b c d).2.1 x, .int .i64 (joinS S a b c d).2.2]) Tt (fun x => R2 (joinS S a b c d).1 (joinS S a b c d).2.1 x) := by
  refine Ct.start Try.func52 rfl rfl (slots_of rfl slots3) (fun D w0 => Pw.facts two2 ?_)
  unfold joinS
  repeat (first | (with_reducible first | refine Pw.seq ?_ | refine Pw.region ?_ | refine Pw.nil ?_ | refine Pw.then_ ?_ | refine Pw.skip ?_ | refine Pw.block ?_ | refine Pw.exit ?_ | refine Pw.inX ?_ | refine Pw.inN ?_ | refine Pw.inR ?_ | refine Pw.thenX ?_ | refine Pw.thenR ?_ | refine Pw.ret ?_) | refine Pw.list (Pw.pure rfl rfl rfl ?_) | refine Pw.inY rfl ?_ | refine Pw.list (Pw.off rfl rfl ?_) | refine Pw.condT rfl ?_ | refine Pw.condF rfl ?_ | refine Pw.list (Pw.box rfl rfl rfl rfl (fun _ => freeHead ?_)) | refine Pw.list (Pw.alloc rfl rfl rfl rfl rfl (fun _ => ?_)) | refine Pw.list (Pw.build rfl rfl rfl rfl ?_) | refine Pw.list (Pw.ld rfl inferInstance rfl rfl rfl ?_) | refine Pw.list (Pw.sto rfl rfl inferInstance rfl rfl rfl rfl rfl inferInstance rfl ?_))
  refine Pw.list (Pw.call (rat_formed_ct a b c d y z ha hb hc hd la lb lc ld) rfl rfl rfl (by kernel_rfl) rfl rfl (fun w h => ⟨(hv w h), (hv w h)⟩) ?_)
  intro _ _
  generalize (formedR a b && formedR c d) = t
  cases t
  · rw [if_neg (by simp)]
    repeat (first | (with_reducible first | refine Pw.seq ?_ | refine Pw.region ?_ | refine Pw.nil ?_ | refine Pw.then_ ?_ | refine Pw.skip ?_ | refine Pw.block ?_ | refine Pw.exit ?_ | refine Pw.inX ?_ | refine Pw.inN ?_ | refine Pw.inR ?_ | refine Pw.thenX ?_ | refine Pw.thenR ?_ | refine Pw.ret ?_) | refine Pw.list (Pw.pure rfl rfl rfl ?_) | refine Pw.inY rfl ?_ | refine Pw.list (Pw.off rfl rfl ?_) | refine Pw.condT rfl ?_ | refine Pw.condF rfl ?_ | refine Pw.list (Pw.box rfl rfl rfl rfl (fun _ => ?_)) | refine Pw.list (Pw.alloc rfl rfl rfl rfl rfl (fun _ => ?_)) | refine Pw.list (Pw.build rfl rfl rfl rfl ?_) | refine Pw.list (Pw.ld rfl inferInstance rfl rfl rfl ?_) | refine Pw.list (Pw.sto rfl rfl inferInstance rfl rfl rfl rfl rfl inferInstance rfl ?_))
    exact Pw.ret_ (x := z0) (.cell rfl (fun w hs => hs.own _ (.head _)) rfl (.tmp rfl .nil)) rfl trivial (fun w h => R2.nil w)
  rw [if_pos rfl]
  have m1 := @mulS_lm a d
  have m2 := @mulS_lm c b
  have m3 := @mulS_lm b d
  repeat (first | (with_reducible first | refine Pw.seq ?_ | refine Pw.region ?_ | refine Pw.nil ?_ | refine Pw.then_ ?_ | refine Pw.skip ?_ | refine Pw.block ?_ | refine Pw.exit ?_ | refine Pw.inX ?_ | refine Pw.inN ?_ | refine Pw.inR ?_ | refine Pw.thenX ?_ | refine Pw.thenR ?_ | refine Pw.ret ?_) | refine Pw.list (Pw.pure rfl rfl rfl ?_) | refine Pw.inY rfl ?_ | refine Pw.list (Pw.off rfl rfl ?_) | refine Pw.condT rfl ?_ | refine Pw.condF rfl ?_ | refine Pw.list (Pw.box rfl rfl rfl rfl (fun _ => ?_)) | refine Pw.list (Pw.alloc rfl rfl rfl rfl rfl (fun _ => ?_)) | refine Pw.list (Pw.build rfl rfl rfl rfl ?_) | refine Pw.list (Pw.ld rfl inferInstance rfl rfl rfl ?_) | refine Pw.list (Pw.sto rfl rfl inferInstance rfl rfl rfl rfl rfl inferInstance rfl ?_))
  refine Pw.drawnG mixed rfl rfl ?_
  refine Pw.takeP 0 (nb 21 1) rfl rfl rfl rfl (by kernel_rfl) np sf ?_
  refine Pw.takeP 1 (nb 21 3) rfl rfl rfl rfl (by kernel_rfl) np sf ?_
  refine Pw.takeF 2 (nb 21 7) rfl rfl inferInstance rfl rfl rfl (by kernel_rfl) np sf ?_
  refine Pw.takeP 3 (nb 21 15) rfl rfl rfl rfl (by kernel_rfl) np sf ?_
  refine Pw.takeF 4 (nb 21 31) rfl rfl inferInstance rfl rfl rfl (by kernel_rfl) np sf ?_
  refine Pw.takeP 6 (nb 21 95) rfl rfl rfl rfl (by kernel_rfl) np sf ?_
  refine Pw.takeP 7 (nb 21 223) rfl rfl rfl rfl (by kernel_rfl) np sf ?_
  refine Pw.takeF 8 (nb 21 479) rfl rfl inferInstance rfl rfl rfl (by kernel_rfl) np sf ?_
  refine Pw.takeP 9 (nb 21 991) rfl rfl rfl rfl (by kernel_rfl) np sf ?_
  refine Pw.takeF 10 (nb 21 2015) rfl rfl inferInstance rfl rfl rfl (by kernel_rfl) np sf ?_
  refine Pw.takeP 12 (nb 21 6111) rfl rfl rfl rfl (by kernel_rfl) np sf ?_
  refine Pw.takeP 13 (nb 21 14303) rfl rfl rfl rfl (by kernel_rfl) np sf ?_
  refine Pw.takeF 14 (nb 21 30687) rfl rfl inferInstance rfl rfl rfl (by kernel_rfl) np sf ?_
  refine Pw.takeP 15 (nb 21 63455) rfl rfl rfl rfl (by kernel_rfl) np sf ?_
  refine Pw.takeF 16 (nb 21 128991) rfl rfl inferInstance rfl rfl rfl (by kernel_rfl) np sf ?_
  refine Pw.one 5 (nb 21 129023) rfl (by kernel_rfl) ?_
  -- call Op.call { callee := Callee.value (Operand.func 76), args := #[Operand.tmp 21, Operand.tmp 23, Operand.tmp 25], argTypes := #[134, 37, 37] }
  refine Pw.call1 (mk_mul0_ct a d y.1 z.2 _ ha hd la ld) rfl rfl rfl (by kernel_rfl) rfl rfl (fun w h => ⟨(hv w h), (hv w h)⟩) (.head _) (fun _ => .head) ?_
  intro x1 _
  refine Pw.held sf ?_
  refine Pw.one 11 (nb 21 131071) rfl (by kernel_rfl) ?_
  -- call Op.call { callee := Callee.value (Operand.func 76), args := #[Operand.tmp 27, Operand.tmp 29, Operand.tmp 31], argTypes := #[134, 37, 37] }
  refine Pw.call1 (mk_mul_ct c b z.1 y.2 _ _ hc hb lc lb) rfl rfl rfl (by kernel_rfl) rfl rfl (fun w h => ⟨(hv w h), (hv w h)⟩) (.head _) (fun _ => .head) ?_
  intro x2 _
  refine Pw.held sf ?_
  refine Pw.one 17 (nb 21 262143) rfl (by kernel_rfl) ?_
  -- call Op.call { callee := Callee.value (Operand.func 76), args := #[Operand.tmp 33, Operand.tmp 35, Operand.tmp 37], argTypes := #[134, 37, 37] }
  refine Pw.call1 (mk_mul_ct b d y.2 z.2 _ _ hb hd lb ld) rfl rfl rfl (by kernel_rfl) rfl rfl (fun w h => ⟨(hv w h), (hv w h)⟩) (.head _) (fun _ => .head) ?_
  intro x3 _
  refine Pw.held sf ?_
  refine Pw.takeP 18 (nb 21 524287) rfl rfl rfl rfl (by kernel_rfl) np sf ?_
  refine Pw.takeP 19 (nb 21 1048575) rfl rfl rfl rfl (by kernel_rfl) np sf ?_
  refine Pw.takeP 20 (nb 21 2097151) rfl rfl rfl rfl (by kernel_rfl) np sf ?_
  refine Pw.done (by kernel_rfl) ?_
  repeat (first | (with_reducible first | refine Pw.seq ?_ | refine Pw.region ?_ | refine Pw.nil ?_ | refine Pw.then_ ?_ | refine Pw.skip ?_ | refine Pw.block ?_ | refine Pw.exit ?_ | refine Pw.inX ?_ | refine Pw.inN ?_ | refine Pw.inR ?_ | refine Pw.thenX ?_ | refine Pw.thenR ?_ | refine Pw.ret ?_) | refine Pw.list (Pw.pure rfl rfl rfl ?_) | refine Pw.inY rfl ?_ | refine Pw.list (Pw.off rfl rfl ?_) | refine Pw.condT rfl ?_ | refine Pw.condF rfl ?_ | refine Pw.list (Pw.box rfl rfl rfl rfl (fun _ => ?_)) | refine Pw.list (Pw.alloc rfl rfl rfl rfl rfl (fun _ => ?_)) | refine Pw.list (Pw.build rfl rfl rfl rfl ?_) | refine Pw.list (Pw.ld rfl inferInstance rfl rfl rfl ?_) | refine Pw.list (Pw.sto rfl rfl inferInstance rfl rfl rfl rfl rfl inferInstance rfl ?_))
  refine Pw.list (Pw.call (hS (mulS a d).1 (mulS c b).1 x1 x2 m1.1.1 m2.1.1 (by omega) (by omega)) rfl rfl rfl hf rfl rfl (fun w h => ⟨(hv w h), (hv w h)⟩) ?_)
  intro x4 _
  obtain ⟨n1, n2⟩ := hlm (mulS a d).1 (mulS c b).1 m1.1.1 m2.1.1
  repeat (first | (with_reducible first | refine Pw.seq ?_ | refine Pw.region ?_ | refine Pw.nil ?_ | refine Pw.then_ ?_ | refine Pw.skip ?_ | refine Pw.block ?_ | refine Pw.exit ?_ | refine Pw.inX ?_ | refine Pw.inN ?_ | refine Pw.inR ?_ | refine Pw.thenX ?_ | refine Pw.thenR ?_ | refine Pw.ret ?_) | refine Pw.list (Pw.pure rfl rfl rfl ?_) | refine Pw.inY rfl ?_ | refine Pw.list (Pw.off rfl rfl ?_) | refine Pw.condT rfl ?_ | refine Pw.condF rfl ?_ | refine Pw.list (Pw.box rfl rfl rfl rfl (fun _ => ?_)) | refine Pw.list (Pw.alloc rfl rfl rfl rfl rfl (fun _ => ?_)) | refine Pw.list (Pw.build rfl rfl rfl rfl ?_) | refine Pw.list (Pw.ld rfl inferInstance rfl rfl rfl ?_) | refine Pw.list (Pw.sto rfl rfl inferInstance rfl rfl rfl rfl rfl inferInstance rfl ?_))
  refine freeHead ?_
  refine Pw.list (Pw.call (mk_end_ct (S (mulS a d).1 (mulS c b).1).1 (mulS b d).1 x4 x3 _ _ (S (mulS a d).1 (mulS c b).1).2 n1.1 m3.1.1 (n2 m1.2 m2.2) (by omega)) rfl rfl rfl (by kernel_rfl) rfl rfl (fun w h => ⟨fact0 h, (hv w h), (hv w h)⟩) ?_)
  intro x5 _
  repeat (first | (with_reducible first | refine Pw.seq ?_ | refine Pw.region ?_ | refine Pw.nil ?_ | refine Pw.then_ ?_ | refine Pw.skip ?_ | refine Pw.block ?_ | refine Pw.exit ?_ | refine Pw.inX ?_ | refine Pw.inN ?_ | refine Pw.inR ?_ | refine Pw.thenX ?_ | refine Pw.thenR ?_ | refine Pw.ret ?_) | refine Pw.list (Pw.pure rfl rfl rfl ?_) | refine Pw.inY rfl ?_ | refine Pw.list (Pw.off rfl rfl ?_) | refine Pw.condT rfl ?_ | refine Pw.condF rfl ?_ | refine Pw.list (Pw.box rfl rfl rfl rfl (fun _ => ?_)) | refine Pw.list (Pw.alloc rfl rfl rfl rfl rfl (fun _ => ?_)) | refine Pw.list (Pw.build rfl rfl rfl rfl ?_) | refine Pw.list (Pw.ld rfl inferInstance rfl rfl rfl ?_) | refine Pw.list (Pw.sto rfl rfl inferInstance rfl rfl rfl rfl rfl inferInstance rfl ?_))
  exact Pw.ret_ (x := x5) (.cell rfl (fun w hs => hs.own _ (.head _)) rfl (.tmp rfl .nil)) rfl trivial (fun w h => fact0 h)
theorem fm_nil : Fm [] := by rw [← natL_zero]; exact natL_fm 0
theorem addS_lm (a b : List Int) (ha : Lm a) (hb : Lm b) : Fm (addS a b).1 ∧ (a.length ≤ 400 → b.length ≤ 400 → (addS a b).1.length < 1048576) := by
  unfold addS
  split
  · unfold fitN
    split
    next h => exact ⟨natL_fm _, fun _ _ => by show (natL _).length < _; omega⟩
    next h => exact ⟨fm_nil, fun _ _ => by simp⟩
  · exact ⟨fm_nil, fun _ _ => by simp⟩
theorem rat_Add_ct (a b c d : List Int) (y z : Z2) (ha : Lm a) (hb : Lm b) (hc : Lm c) (hd : Lm d) (la : a.length < 1048576) (lb : b.length < 1048576) (lc : c.length < 1048576) (ld : d.length < 1048576) :
    Ct Try.prog 21 #[rt a b y, rt c d z] (fun W => R2 a b y W ∧ R2 c d z W) (fun x : Z2 => .tuple #[rt (joinS addS a b c d).1 (joinS addS a b c d).2.1 x, .int .i64 (joinS addS a b c d).2.2]) Tt (fun x => R2 (joinS addS a b c d).1 (joinS addS a b c d).2.1 x) := by
  refine Ct.start Try.func21 rfl rfl (slots_of rfl slots2) (fun D w0 => Pw.facts two2 ?_)
  repeat (first | (with_reducible first | refine Pw.seq ?_ | refine Pw.region ?_ | refine Pw.nil ?_ | refine Pw.then_ ?_ | refine Pw.skip ?_ | refine Pw.block ?_ | refine Pw.exit ?_ | refine Pw.inX ?_ | refine Pw.inN ?_ | refine Pw.inR ?_ | refine Pw.thenX ?_ | refine Pw.thenR ?_ | refine Pw.ret ?_) | refine Pw.list (Pw.pure rfl rfl rfl ?_) | refine Pw.inY rfl ?_ | refine Pw.list (Pw.off rfl rfl ?_) | refine Pw.condT rfl ?_ | refine Pw.condF rfl ?_ | refine Pw.list (Pw.box rfl rfl rfl rfl (fun _ => freeHead ?_)) | refine Pw.list (Pw.alloc rfl rfl rfl rfl rfl (fun _ => ?_)) | refine Pw.list (Pw.build rfl rfl rfl rfl ?_) | refine Pw.list (Pw.ld rfl inferInstance rfl rfl rfl ?_) | refine Pw.list (Pw.sto rfl rfl inferInstance rfl rfl rfl rfl rfl inferInstance rfl ?_))
  refine Pw.list (Pw.call (join_ct addS 22 (fun u v x y hu hv lu lv => Add_ct u v x y hu hv lu lv) (by kernel_rfl) addS_lm a b c d y z ha hb hc hd la lb lc ld) rfl rfl rfl (by kernel_rfl) rfl rfl (fun w h => ⟨(hv w h), (hv w h)⟩) ?_)
  intro x _
  repeat (first | (with_reducible first | refine Pw.seq ?_ | refine Pw.region ?_ | refine Pw.nil ?_ | refine Pw.then_ ?_ | refine Pw.skip ?_ | refine Pw.block ?_ | refine Pw.exit ?_ | refine Pw.inX ?_ | refine Pw.inN ?_ | refine Pw.inR ?_ | refine Pw.thenX ?_ | refine Pw.thenR ?_ | refine Pw.ret ?_) | refine Pw.list (Pw.pure rfl rfl rfl ?_) | refine Pw.inY rfl ?_ | refine Pw.list (Pw.off rfl rfl ?_) | refine Pw.condT rfl ?_ | refine Pw.condF rfl ?_ | refine Pw.list (Pw.box rfl rfl rfl rfl (fun _ => ?_)) | refine Pw.list (Pw.alloc rfl rfl rfl rfl rfl (fun _ => ?_)) | refine Pw.list (Pw.build rfl rfl rfl rfl ?_) | refine Pw.list (Pw.ld rfl inferInstance rfl rfl rfl ?_) | refine Pw.list (Pw.sto rfl rfl inferInstance rfl rfl rfl rfl rfl inferInstance rfl ?_))
  exact Pw.ret_ (x := x) (.cell rfl (fun w hs => hs.own _ (.head _)) rfl (.tmp rfl .nil)) rfl trivial (fun w h => fact0 h)
end Go.Proofs.Wk
/- Walks of the reference's fractions. -/
namespace Go.Proofs.Wk
open Go.RowKit
set_option maxRecDepth 100000
attribute [local irreducible] Pw OpG
set_option linter.unusedVariables false
set_option linter.unusedSimpArgs false
theorem lowest_ct (a b : List Int) (x y : Option Addr × Nat) (ha : Fm a) (hb : Fm b) (hb0 : b.length ≠ 0) (hl : a.length < 1048576) (hl' : b.length < 1048576) :
    Ct Try.prog 71 #[sl a x, sl b y] (fun W => S1 a x W ∧ S1 b y W) (fun z : Z2 => rt (lowS a b).1 (lowS a b).2 z) Tt (fun z => R2 (lowS a b).1 (lowS a b).2 z) := by
  refine Ct.start Try.func71 rfl rfl (slots_of rfl slots2) (fun D w0 => Pw.facts two2 ?_)
  have hbp := val_pos_of hb hb0
  have g0 := gcdI_pos (x := val a) hbp
  have gl := gcdI_le (x := val a) hbp
  have hg := rgcd_ct a b x y ha hb hl hl'
  unfold lowS
  obtain ⟨G, hG⟩ : ∃ g, g = gcdI (val a) (val b) := ⟨_, rfl⟩
  rw [← hG] at g0 gl hg ⊢
  have pb := val_lt_pw hb.1
  have lg := natL_len_le (n := b.length) (show 0 ≤ G by omega) (by omega)
  have hz : (natL G).length ≠ 0 := fun e => by have := (natL_len_zero (show 0 ≤ G by omega)).1 e; omega
  repeat (first | (with_reducible first | refine Pw.seq ?_ | refine Pw.region ?_ | refine Pw.nil ?_ | refine Pw.then_ ?_ | refine Pw.skip ?_ | refine Pw.block ?_ | refine Pw.exit ?_ | refine Pw.inX ?_ | refine Pw.inN ?_ | refine Pw.inR ?_ | refine Pw.thenX ?_ | refine Pw.thenR ?_ | refine Pw.ret ?_) | refine Pw.list (Pw.pure rfl rfl rfl ?_) | refine Pw.inY rfl ?_ | refine Pw.list (Pw.off rfl rfl ?_) | refine Pw.condT rfl ?_ | refine Pw.condF rfl ?_ | refine Pw.list (Pw.box rfl rfl rfl rfl (fun _ => freeHead ?_)) | refine Pw.list (Pw.alloc rfl rfl rfl rfl rfl (fun _ => ?_)) | refine Pw.list (Pw.build rfl rfl rfl rfl ?_) | refine Pw.list (Pw.ld rfl inferInstance rfl rfl rfl ?_) | refine Pw.list (Pw.sto rfl rfl inferInstance rfl rfl rfl rfl rfl inferInstance rfl ?_))
  refine Pw.list (Pw.call hg rfl rfl rfl (by kernel_rfl) rfl rfl (fun w h => ⟨(hv w h), (hv w h)⟩) ?_)
  intro zg _
  have d1 := rdivMod_ct a (natL G) x zg ha (natL_fm G) hz hl (by omega)
  have d2 := rdivMod_ct b (natL G) y zg hb (natL_fm G) hz hl' (by omega)
  rw [val_natL (by omega)] at d1 d2
  repeat (first | (with_reducible first | refine Pw.seq ?_ | refine Pw.region ?_ | refine Pw.nil ?_ | refine Pw.then_ ?_ | refine Pw.skip ?_ | refine Pw.block ?_ | refine Pw.exit ?_ | refine Pw.inX ?_ | refine Pw.inN ?_ | refine Pw.inR ?_ | refine Pw.thenX ?_ | refine Pw.thenR ?_ | refine Pw.ret ?_) | refine Pw.list (Pw.pure rfl rfl rfl ?_) | refine Pw.inY rfl ?_ | refine Pw.list (Pw.off rfl rfl ?_) | refine Pw.condT rfl ?_ | refine Pw.condF rfl ?_ | refine Pw.list (Pw.box rfl rfl rfl rfl (fun _ => freeHead ?_)) | refine Pw.list (Pw.alloc rfl rfl rfl rfl rfl (fun _ => ?_)) | refine Pw.list (Pw.build rfl rfl rfl rfl ?_) | refine Pw.list (Pw.ld rfl inferInstance rfl rfl rfl ?_) | refine Pw.list (Pw.sto rfl rfl inferInstance rfl rfl rfl rfl rfl inferInstance rfl ?_))
  refine Pw.list (Pw.call d1 rfl rfl rfl (by kernel_rfl) rfl rfl (fun w h => ⟨(hv w h), (hv w h)⟩) ?_)
  intro z1 _
  repeat (first | (with_reducible first | refine Pw.seq ?_ | refine Pw.region ?_ | refine Pw.nil ?_ | refine Pw.then_ ?_ | refine Pw.skip ?_ | refine Pw.block ?_ | refine Pw.exit ?_ | refine Pw.inX ?_ | refine Pw.inN ?_ | refine Pw.inR ?_ | refine Pw.thenX ?_ | refine Pw.thenR ?_ | refine Pw.ret ?_) | refine Pw.list (Pw.pure rfl rfl rfl ?_) | refine Pw.inY rfl ?_ | refine Pw.list (Pw.off rfl rfl ?_) | refine Pw.condT rfl ?_ | refine Pw.condF rfl ?_ | refine Pw.list (Pw.box rfl rfl rfl rfl (fun _ => freeHead ?_)) | refine Pw.list (Pw.alloc rfl rfl rfl rfl rfl (fun _ => ?_)) | refine Pw.list (Pw.build rfl rfl rfl rfl ?_) | refine Pw.list (Pw.ld rfl inferInstance rfl rfl rfl ?_) | refine Pw.list (Pw.sto rfl rfl inferInstance rfl rfl rfl rfl rfl inferInstance rfl ?_))
  refine Pw.list (Pw.call d2 rfl rfl rfl (by kernel_rfl) rfl rfl (fun w h => ⟨(hv w h), (hv w h)⟩) ?_)
  intro z2 _
  repeat (first | (with_reducible first | refine Pw.seq ?_ | refine Pw.region ?_ | refine Pw.nil ?_ | refine Pw.then_ ?_ | refine Pw.skip ?_ | refine Pw.block ?_ | refine Pw.exit ?_ | refine Pw.inX ?_ | refine Pw.inN ?_ | refine Pw.inR ?_ | refine Pw.thenX ?_ | refine Pw.thenR ?_ | refine Pw.ret ?_) | refine Pw.list (Pw.pure rfl rfl rfl ?_) | refine Pw.inY rfl ?_ | refine Pw.list (Pw.off rfl rfl ?_) | refine Pw.condT rfl ?_ | refine Pw.condF rfl ?_ | refine Pw.list (Pw.box rfl rfl rfl rfl (fun _ => freeHead ?_)) | refine Pw.list (Pw.alloc rfl rfl rfl rfl rfl (fun _ => ?_)) | refine Pw.list (Pw.build rfl rfl rfl rfl ?_) | refine Pw.list (Pw.ld rfl inferInstance rfl rfl rfl ?_) | refine Pw.list (Pw.sto rfl rfl inferInstance rfl rfl rfl rfl rfl inferInstance rfl ?_))
  exact Pw.ret_ (x := (z1.1, z2.1)) (.cell rfl (fun w hs => hs.own _ (.head _)) rfl .nil) rfl trivial (fun w h => ⟨(fact1 h).1, (fact0 h).1⟩)
theorem SameRatio_ct (a b c d : List Int) (y z : Z2) (ha : Fm a) (hb : Fm b) (hc : Fm c) (hd : Fm d) (la : a.length < 1048576) (lb : b.length < 1048576) (lc : c.length < 1048576) (ld : d.length < 1048576) :
    Ct Try.prog 33 #[rt a b y, rt c d z] (fun W => R2 a b y W ∧ R2 c d z W) (fun _ : Unit => .bool (decide (val a = val c) && decide (val b = val d))) Tt (fun _ _ => True) := by
  refine Ct.start Try.func33 rfl rfl (slots_of rfl slots2) (fun D w0 => Pw.facts two2 ?_)
  repeat (first | (with_reducible first | refine Pw.seq ?_ | refine Pw.region ?_ | refine Pw.nil ?_ | refine Pw.then_ ?_ | refine Pw.skip ?_ | refine Pw.block ?_ | refine Pw.exit ?_ | refine Pw.inX ?_ | refine Pw.inN ?_ | refine Pw.inR ?_ | refine Pw.thenX ?_ | refine Pw.thenR ?_ | refine Pw.ret ?_) | refine Pw.list (Pw.pure rfl rfl rfl ?_) | refine Pw.inY rfl ?_ | refine Pw.list (Pw.off rfl rfl ?_) | refine Pw.condT rfl ?_ | refine Pw.condF rfl ?_ | refine Pw.list (Pw.box rfl rfl rfl rfl (fun _ => freeHead ?_)) | refine Pw.list (Pw.alloc rfl rfl rfl rfl rfl (fun _ => ?_)) | refine Pw.list (Pw.build rfl rfl rfl rfl ?_) | refine Pw.list (Pw.ld rfl inferInstance rfl rfl rfl ?_) | refine Pw.list (Pw.sto rfl rfl inferInstance rfl rfl rfl rfl rfl inferInstance rfl ?_))
  refine Pw.list (Pw.call (rSame_ct a c y.1 z.1 ha hc (by omega) (by omega)) rfl rfl rfl (by kernel_rfl) rfl rfl (fun w h => ⟨(hv w h), (hv w h)⟩) ?_)
  intro _ _
  generalize decide (val a = val c) = t
  cases t
  · repeat (first | (with_reducible first | refine Pw.seq ?_ | refine Pw.region ?_ | refine Pw.nil ?_ | refine Pw.then_ ?_ | refine Pw.skip ?_ | refine Pw.block ?_ | refine Pw.exit ?_ | refine Pw.inX ?_ | refine Pw.inN ?_ | refine Pw.inR ?_ | refine Pw.thenX ?_ | refine Pw.thenR ?_ | refine Pw.ret ?_) | refine Pw.list (Pw.pure rfl rfl rfl ?_) | refine Pw.inY rfl ?_ | refine Pw.list (Pw.off rfl rfl ?_) | refine Pw.condT rfl ?_ | refine Pw.condF rfl ?_ | refine Pw.list (Pw.box rfl rfl rfl rfl (fun _ => freeHead ?_)) | refine Pw.list (Pw.alloc rfl rfl rfl rfl rfl (fun _ => ?_)) | refine Pw.list (Pw.build rfl rfl rfl rfl ?_) | refine Pw.list (Pw.ld rfl inferInstance rfl rfl rfl ?_) | refine Pw.list (Pw.sto rfl rfl inferInstance rfl rfl rfl rfl rfl inferInstance rfl ?_))
    exact Pw.ret_ (x := ()) (.tmp rfl .nil) rfl trivial (fun w h => by trivial)
  · repeat (first | (with_reducible first | refine Pw.seq ?_ | refine Pw.region ?_ | refine Pw.nil ?_ | refine Pw.then_ ?_ | refine Pw.skip ?_ | refine Pw.block ?_ | refine Pw.exit ?_ | refine Pw.inX ?_ | refine Pw.inN ?_ | refine Pw.inR ?_ | refine Pw.thenX ?_ | refine Pw.thenR ?_ | refine Pw.ret ?_) | refine Pw.list (Pw.pure rfl rfl rfl ?_) | refine Pw.inY rfl ?_ | refine Pw.list (Pw.off rfl rfl ?_) | refine Pw.condT rfl ?_ | refine Pw.condF rfl ?_ | refine Pw.list (Pw.box rfl rfl rfl rfl (fun _ => freeHead ?_)) | refine Pw.list (Pw.alloc rfl rfl rfl rfl rfl (fun _ => ?_)) | refine Pw.list (Pw.build rfl rfl rfl rfl ?_) | refine Pw.list (Pw.ld rfl inferInstance rfl rfl rfl ?_) | refine Pw.list (Pw.sto rfl rfl inferInstance rfl rfl rfl rfl rfl inferInstance rfl ?_))
    refine Pw.list (Pw.call (rSame_ct b d y.2 z.2 hb hd (by omega) (by omega)) rfl rfl rfl (by kernel_rfl) rfl rfl (fun w h => ⟨(hv w h), (hv w h)⟩) ?_)
    intro _ _
    repeat (first | (with_reducible first | refine Pw.seq ?_ | refine Pw.region ?_ | refine Pw.nil ?_ | refine Pw.then_ ?_ | refine Pw.skip ?_ | refine Pw.block ?_ | refine Pw.exit ?_ | refine Pw.inX ?_ | refine Pw.inN ?_ | refine Pw.inR ?_ | refine Pw.thenX ?_ | refine Pw.thenR ?_ | refine Pw.ret ?_) | refine Pw.list (Pw.pure rfl rfl rfl ?_) | refine Pw.inY rfl ?_ | refine Pw.list (Pw.off rfl rfl ?_) | refine Pw.condT rfl ?_ | refine Pw.condF rfl ?_ | refine Pw.list (Pw.box rfl rfl rfl rfl (fun _ => freeHead ?_)) | refine Pw.list (Pw.alloc rfl rfl rfl rfl rfl (fun _ => ?_)) | refine Pw.list (Pw.build rfl rfl rfl rfl ?_) | refine Pw.list (Pw.ld rfl inferInstance rfl rfl rfl ?_) | refine Pw.list (Pw.sto rfl rfl inferInstance rfl rfl rfl rfl rfl inferInstance rfl ?_))
    exact Pw.ret_ (x := ()) (.tmp rfl .nil) rfl trivial (fun w h => by trivial)
theorem FormedRatio_ct (a b : List Int) (z : Z2) (ha : Lm a) (hb : Lm b) (la : a.length < 1048576) (lb : b.length < 1048576) :
    Ct Try.prog 30 #[rt a b z] (R2 a b z) (fun _ : Unit => .bool (formedR a b)) Tt (fun _ _ => True) := by
  refine Ct.start Try.func30 rfl rfl (slots_of rfl slots1) (fun D w0 => ?_)
  unfold formedR
  repeat (first | (with_reducible first | refine Pw.seq ?_ | refine Pw.region ?_ | refine Pw.nil ?_ | refine Pw.then_ ?_ | refine Pw.skip ?_ | refine Pw.block ?_ | refine Pw.exit ?_ | refine Pw.inX ?_ | refine Pw.inN ?_ | refine Pw.inR ?_ | refine Pw.thenX ?_ | refine Pw.thenR ?_ | refine Pw.ret ?_) | refine Pw.list (Pw.pure rfl rfl rfl ?_) | refine Pw.inY rfl ?_ | refine Pw.list (Pw.off rfl rfl ?_) | refine Pw.condT rfl ?_ | refine Pw.condF rfl ?_ | refine Pw.list (Pw.box rfl rfl rfl rfl (fun _ => freeHead ?_)) | refine Pw.list (Pw.alloc rfl rfl rfl rfl rfl (fun _ => ?_)) | refine Pw.list (Pw.build rfl rfl rfl rfl ?_) | refine Pw.list (Pw.ld rfl inferInstance rfl rfl rfl ?_) | refine Pw.list (Pw.sto rfl rfl inferInstance rfl rfl rfl rfl rfl inferInstance rfl ?_))
  refine Pw.list (Pw.call (rFormed_ct a z.1 (by omega)) rfl rfl rfl (by kernel_rfl) rfl rfl (fun w h => (hv w h)) ?_)
  intro _ _
  cases e1 : fmB a
  · repeat (first | (with_reducible first | refine Pw.seq ?_ | refine Pw.region ?_ | refine Pw.nil ?_ | refine Pw.then_ ?_ | refine Pw.skip ?_ | refine Pw.block ?_ | refine Pw.exit ?_ | refine Pw.inX ?_ | refine Pw.inN ?_ | refine Pw.inR ?_ | refine Pw.thenX ?_ | refine Pw.thenR ?_ | refine Pw.ret ?_) | refine Pw.list (Pw.pure rfl rfl rfl ?_) | refine Pw.inY rfl ?_ | refine Pw.list (Pw.off rfl rfl ?_) | refine Pw.condT rfl ?_ | refine Pw.condF rfl ?_ | refine Pw.list (Pw.box rfl rfl rfl rfl (fun _ => freeHead ?_)) | refine Pw.list (Pw.alloc rfl rfl rfl rfl rfl (fun _ => ?_)) | refine Pw.list (Pw.build rfl rfl rfl rfl ?_) | refine Pw.list (Pw.ld rfl inferInstance rfl rfl rfl ?_) | refine Pw.list (Pw.sto rfl rfl inferInstance rfl rfl rfl rfl rfl inferInstance rfl ?_))
    exact Pw.ret_ (x := ()) (.tmp rfl .nil) rfl trivial (fun w h => by trivial)
  repeat (first | (with_reducible first | refine Pw.seq ?_ | refine Pw.region ?_ | refine Pw.nil ?_ | refine Pw.then_ ?_ | refine Pw.skip ?_ | refine Pw.block ?_ | refine Pw.exit ?_ | refine Pw.inX ?_ | refine Pw.inN ?_ | refine Pw.inR ?_ | refine Pw.thenX ?_ | refine Pw.thenR ?_ | refine Pw.ret ?_) | refine Pw.list (Pw.pure rfl rfl rfl ?_) | refine Pw.inY rfl ?_ | refine Pw.list (Pw.off rfl rfl ?_) | refine Pw.condT rfl ?_ | refine Pw.condF rfl ?_ | refine Pw.list (Pw.box rfl rfl rfl rfl (fun _ => freeHead ?_)) | refine Pw.list (Pw.alloc rfl rfl rfl rfl rfl (fun _ => ?_)) | refine Pw.list (Pw.build rfl rfl rfl rfl ?_) | refine Pw.list (Pw.ld rfl inferInstance rfl rfl rfl ?_) | refine Pw.list (Pw.sto rfl rfl inferInstance rfl rfl rfl rfl rfl inferInstance rfl ?_))
  refine Pw.list (Pw.call (rFormed_ct b z.2 (by omega)) rfl rfl rfl (by kernel_rfl) rfl rfl (fun w h => (hv w h)) ?_)
  intro _ _
  cases e2 : fmB b
  · repeat (first | (with_reducible first | refine Pw.seq ?_ | refine Pw.region ?_ | refine Pw.nil ?_ | refine Pw.then_ ?_ | refine Pw.skip ?_ | refine Pw.block ?_ | refine Pw.exit ?_ | refine Pw.inX ?_ | refine Pw.inN ?_ | refine Pw.inR ?_ | refine Pw.thenX ?_ | refine Pw.thenR ?_ | refine Pw.ret ?_) | refine Pw.list (Pw.pure rfl rfl rfl ?_) | refine Pw.inY rfl ?_ | refine Pw.list (Pw.off rfl rfl ?_) | refine Pw.condT rfl ?_ | refine Pw.condF rfl ?_ | refine Pw.list (Pw.box rfl rfl rfl rfl (fun _ => freeHead ?_)) | refine Pw.list (Pw.alloc rfl rfl rfl rfl rfl (fun _ => ?_)) | refine Pw.list (Pw.build rfl rfl rfl rfl ?_) | refine Pw.list (Pw.ld rfl inferInstance rfl rfl rfl ?_) | refine Pw.list (Pw.sto rfl rfl inferInstance rfl rfl rfl rfl rfl inferInstance rfl ?_))
    exact Pw.ret_ (x := ()) (.tmp rfl .nil) rfl trivial (fun w h => by trivial)
  repeat (first | (with_reducible first | refine Pw.seq ?_ | refine Pw.region ?_ | refine Pw.nil ?_ | refine Pw.then_ ?_ | refine Pw.skip ?_ | refine Pw.block ?_ | refine Pw.exit ?_ | refine Pw.inX ?_ | refine Pw.inN ?_ | refine Pw.inR ?_ | refine Pw.thenX ?_ | refine Pw.thenR ?_ | refine Pw.ret ?_) | refine Pw.list (Pw.pure rfl rfl rfl ?_) | refine Pw.inY rfl ?_ | refine Pw.list (Pw.off rfl rfl ?_) | refine Pw.condT rfl ?_ | refine Pw.condF rfl ?_ | refine Pw.list (Pw.box rfl rfl rfl rfl (fun _ => freeHead ?_)) | refine Pw.list (Pw.alloc rfl rfl rfl rfl rfl (fun _ => ?_)) | refine Pw.list (Pw.build rfl rfl rfl rfl ?_) | refine Pw.list (Pw.ld rfl inferInstance rfl rfl rfl ?_) | refine Pw.list (Pw.sto rfl rfl inferInstance rfl rfl rfl rfl rfl inferInstance rfl ?_))
  refine Pw.split 17 rfl (fun c1 => ?_) (fun c1 => ?_)
  · have h0 : 0 < b.length := by omega
    have hfb := ((fmB_iff hb).1 e2)
    have hbp := val_pos_of hfb.2 (by omega)
    have gl := gcdI_le (x := val a) hbp
    have g0 := gcdI_nonneg (val a) (val b)
    have lg := natL_len_le (n := b.length) g0 (by have := val_lt_pw hb; omega)
    rw [decide_eq_true h0]
    repeat (first | (with_reducible first | refine Pw.seq ?_ | refine Pw.region ?_ | refine Pw.nil ?_ | refine Pw.then_ ?_ | refine Pw.skip ?_ | refine Pw.block ?_ | refine Pw.exit ?_ | refine Pw.inX ?_ | refine Pw.inN ?_ | refine Pw.inR ?_ | refine Pw.thenX ?_ | refine Pw.thenR ?_ | refine Pw.ret ?_) | refine Pw.list (Pw.pure rfl rfl rfl ?_) | refine Pw.inY rfl ?_ | refine Pw.list (Pw.off rfl rfl ?_) | refine Pw.condT rfl ?_ | refine Pw.condF rfl ?_ | refine Pw.list (Pw.box rfl rfl rfl rfl (fun _ => freeHead ?_)) | refine Pw.list (Pw.alloc rfl rfl rfl rfl rfl (fun _ => ?_)) | refine Pw.list (Pw.build rfl rfl rfl rfl ?_) | refine Pw.list (Pw.ld rfl inferInstance rfl rfl rfl ?_) | refine Pw.list (Pw.sto rfl rfl inferInstance rfl rfl rfl rfl rfl inferInstance rfl ?_))
    refine Pw.list (Pw.call (rgcd_ct a b z.1 z.2 ((fmB_iff ha).1 e1).2 hfb.2 la lb) rfl rfl rfl (by kernel_rfl) rfl rfl (fun w h => ⟨(hv w h), (hv w h)⟩) ?_)
    intro zg _
    repeat (first | (with_reducible first | refine Pw.seq ?_ | refine Pw.region ?_ | refine Pw.nil ?_ | refine Pw.then_ ?_ | refine Pw.skip ?_ | refine Pw.block ?_ | refine Pw.exit ?_ | refine Pw.inX ?_ | refine Pw.inN ?_ | refine Pw.inR ?_ | refine Pw.thenX ?_ | refine Pw.thenR ?_ | refine Pw.ret ?_) | refine Pw.list (Pw.pure rfl rfl rfl ?_) | refine Pw.inY rfl ?_ | refine Pw.list (Pw.off rfl rfl ?_) | refine Pw.condT rfl ?_ | refine Pw.condF rfl ?_ | refine Pw.list (Pw.box rfl rfl rfl rfl (fun _ => freeHead ?_)) | refine Pw.list (Pw.alloc rfl rfl rfl rfl rfl (fun _ => ?_)) | refine Pw.list (Pw.build rfl rfl rfl rfl ?_) | refine Pw.list (Pw.ld rfl inferInstance rfl rfl rfl ?_) | refine Pw.list (Pw.sto rfl rfl inferInstance rfl rfl rfl rfl rfl inferInstance rfl ?_))
    refine Pw.list (Pw.lit1 rfl rfl rfl rfl rfl rfl rfl rfl rfl (fun g1 => freeHead ?_))
    have hs := rSame_ct (natL (gcdI (val a) (val b))) [1] zg (some ⟨g1, 0, none⟩, 1) (natL_fm _) (by rw [← natL_one]; exact natL_fm 1) (by omega) (by simp)
    rw [val_natL g0, show val [1] = 1 by simp [val]] at hs
    refine Pw.list (Pw.call hs rfl rfl rfl (by kernel_rfl) rfl rfl (fun w h => ⟨(hv w h), ints_of_row' (l := [1]) (fact0 h) (by simp) (by simp [maxLen])⟩) ?_)
    intro _ _
    repeat (first | (with_reducible first | refine Pw.seq ?_ | refine Pw.region ?_ | refine Pw.nil ?_ | refine Pw.then_ ?_ | refine Pw.skip ?_ | refine Pw.block ?_ | refine Pw.exit ?_ | refine Pw.inX ?_ | refine Pw.inN ?_ | refine Pw.inR ?_ | refine Pw.thenX ?_ | refine Pw.thenR ?_ | refine Pw.ret ?_) | refine Pw.list (Pw.pure rfl rfl rfl ?_) | refine Pw.inY rfl ?_ | refine Pw.list (Pw.off rfl rfl ?_) | refine Pw.condT rfl ?_ | refine Pw.condF rfl ?_ | refine Pw.list (Pw.box rfl rfl rfl rfl (fun _ => freeHead ?_)) | refine Pw.list (Pw.alloc rfl rfl rfl rfl rfl (fun _ => ?_)) | refine Pw.list (Pw.build rfl rfl rfl rfl ?_) | refine Pw.list (Pw.ld rfl inferInstance rfl rfl rfl ?_) | refine Pw.list (Pw.sto rfl rfl inferInstance rfl rfl rfl rfl rfl inferInstance rfl ?_))
    exact Pw.ret_ (x := ()) (.tmp rfl .nil) rfl trivial (fun w h => by trivial)
  · have h0 : ¬ 0 < b.length := by omega
    rw [decide_eq_false h0]
    repeat (first | (with_reducible first | refine Pw.seq ?_ | refine Pw.region ?_ | refine Pw.nil ?_ | refine Pw.then_ ?_ | refine Pw.skip ?_ | refine Pw.block ?_ | refine Pw.exit ?_ | refine Pw.inX ?_ | refine Pw.inN ?_ | refine Pw.inR ?_ | refine Pw.thenX ?_ | refine Pw.thenR ?_ | refine Pw.ret ?_) | refine Pw.list (Pw.pure rfl rfl rfl ?_) | refine Pw.inY rfl ?_ | refine Pw.list (Pw.off rfl rfl ?_) | refine Pw.condT rfl ?_ | refine Pw.condF rfl ?_ | refine Pw.list (Pw.box rfl rfl rfl rfl (fun _ => freeHead ?_)) | refine Pw.list (Pw.alloc rfl rfl rfl rfl rfl (fun _ => ?_)) | refine Pw.list (Pw.build rfl rfl rfl rfl ?_) | refine Pw.list (Pw.ld rfl inferInstance rfl rfl rfl ?_) | refine Pw.list (Pw.sto rfl rfl inferInstance rfl rfl rfl rfl rfl inferInstance rfl ?_))
    exact Pw.ret_ (x := ()) (.tmp rfl .nil) rfl trivial (fun w h => by trivial)
end Go.Proofs.Wk
/- What layer 2 answers, of formed fractions. -/
namespace Go.Proofs.Wk
set_option linter.unusedVariables false
set_option linter.unusedSimpArgs false

theorem mulS_bd {a b : List Int} (ha : fmB a = true) (hb : fmB b = true) : mulS a b = bdS (natL (val a * val b)) := by
  unfold mulS; rw [if_pos ⟨ha, hb⟩]; rfl
theorem addS_bd {a b : List Int} (ha : fmB a = true) (hb : fmB b = true) : addS a b = bdS (natL (val a + val b)) := by
  unfold addS; rw [if_pos ⟨ha, hb⟩]; rfl
theorem bd_ok {l : List Int} (h : l.length ≤ 400) : bdS l = (l, 0) := if_pos h
theorem bd_no {l : List Int} (h : ¬ l.length ≤ 400) : bdS l = ([], 4) := if_neg h
theorem makeS_natL {p q : Int} (hq : 0 < q) (h1 : (natL p).length ≤ 400) (h2 : (natL q).length ≤ 400) : makeS (natL p) (natL q) = ((lowS (natL p) (natL q)).1, (lowS (natL p) (natL q)).2, 0) := by
  unfold makeS
  rw [if_pos ⟨fmB_natL h1, fmB_natL h2⟩, if_neg (fun e => by have := (natL_len_zero (show 0 ≤ q by omega)).1 e; omega)]
theorem fm_pos {b : List Int} (hb : Lm b) (h : fmB b = true) (h0 : 0 < b.length) : 0 < val b := val_pos_of ((fmB_iff hb).1 h).2 (by omega)
section
variable {a b c d : List Int} (ha : Lm a) (hb : Lm b) (hc : Lm c) (hd : Lm d) (hf : formedR a b = true) (hg : formedR c d = true)
include ha hb hc hd hf hg
theorem raddS_eq : joinS addS a b c d = if (natL (val a * val d)).length ≤ 400 ∧ (natL (val c * val b)).length ≤ 400 ∧ (natL (val b * val d)).length ≤ 400 ∧ (natL (val a * val d + val c * val b)).length ≤ 400 then ((lowS (natL (val a * val d + val c * val b)) (natL (val b * val d))).1, (lowS (natL (val a * val d + val c * val b)) (natL (val b * val d))).2, 0) else ([], [], 4) := by
  obtain ⟨f1, f2, f3, _⟩ := formedR_spec ha hb hf
  obtain ⟨g1, g2, g3, _⟩ := formedR_spec hc hd hg
  have hq := Int.mul_pos (fm_pos hb f2 f3) (fm_pos hd g2 g3)
  have p1 := Int.mul_nonneg (val_nonneg ha) (val_nonneg hd)
  have p2 := Int.mul_nonneg (val_nonneg hc) (val_nonneg hb)
  unfold joinS
  rw [if_pos (by simp [hf, hg]), mulS_bd f1 g2, mulS_bd g1 f2, mulS_bd f2 g2]
  by_cases h1 : (natL (val a * val d)).length ≤ 400 <;> by_cases h2 : (natL (val c * val b)).length ≤ 400 <;> by_cases h3 : (natL (val b * val d)).length ≤ 400
  · rw [bd_ok h1, bd_ok h2, bd_ok h3]
    show endS 0 (addS (natL _) (natL _)).2 (addS (natL _) (natL _)).1 (natL _) = _
    rw [addS_bd (fmB_natL h1) (fmB_natL h2), val_natL p1, val_natL p2]
    by_cases h4 : (natL (val a * val d + val c * val b)).length ≤ 400
    · rw [bd_ok h4, if_pos ⟨h1, h2, h3, h4⟩]; exact makeS_natL hq h4 h3
    · rw [bd_no h4, if_neg (fun h => h4 h.2.2.2)]; rfl
  all_goals first
    | (rw [bd_ok h1, bd_ok h2, bd_no h3, if_neg (fun h => h3 h.2.2.1)]; rfl)
    | (rw [bd_ok h1, bd_no h2, bd_ok h3, if_neg (fun h => h2 h.2.1)]; rfl)
    | (rw [bd_ok h1, bd_no h2, bd_no h3, if_neg (fun h => h2 h.2.1)]; rfl)
    | (rw [bd_no h1, bd_ok h2, bd_ok h3, if_neg (fun h => h1 h.1)]; rfl)
    | (rw [bd_no h1, bd_ok h2, bd_no h3, if_neg (fun h => h1 h.1)]; rfl)
    | (rw [bd_no h1, bd_no h2, bd_ok h3, if_neg (fun h => h1 h.1)]; rfl)
    | (rw [bd_no h1, bd_no h2, bd_no h3, if_neg (fun h => h1 h.1)]; rfl)
end
end Go.Proofs.Wk
/- Walks of the reference's fractions: reckoning. -/
namespace Go.Proofs.Wk
open Go.RowKit
set_option maxRecDepth 100000
attribute [local irreducible] Pw OpG
set_option linter.unusedVariables false
set_option linter.unusedSimpArgs false
def crossS (a b c d : List Int) : List Int × List Int × Int := if (natL (val a * val d)).length ≤ 400 ∧ (natL (val c * val b)).length ≤ 400 then (natL (val a * val d), natL (val c * val b), 0) else ([], [], 4)
theorem cross_ct (a b c d : List Int) (y z : Z2) (ha : Lm a) (hb : Lm b) (hc : Lm c) (hd : Lm d) (la : a.length < 1048576) (lb : b.length < 1048576) (lc : c.length < 1048576) (ld : d.length < 1048576) :
    Ct Try.prog 67 #[rt a b y, rt c d z] (fun W => R2 a b y W ∧ R2 c d z W) (fun x : Z2 => .tuple #[sl (crossS a b c d).1 x.1, sl (crossS a b c d).2.1 x.2, .int .i64 (crossS a b c d).2.2]) Tt (fun x => R2 (crossS a b c d).1 (crossS a b c d).2.1 x) := by
  refine Ct.start Try.func67 rfl rfl (slots_of rfl slots2) (fun D w0 => Pw.facts two2 ?_)
  unfold crossS
  repeat (first | (with_reducible first | refine Pw.seq ?_ | refine Pw.region ?_ | refine Pw.nil ?_ | refine Pw.then_ ?_ | refine Pw.skip ?_ | refine Pw.block ?_ | refine Pw.exit ?_ | refine Pw.inX ?_ | refine Pw.inN ?_ | refine Pw.inR ?_ | refine Pw.thenX ?_ | refine Pw.thenR ?_ | refine Pw.ret ?_) | refine Pw.list (Pw.pure rfl rfl rfl ?_) | refine Pw.inY rfl ?_ | refine Pw.list (Pw.off rfl rfl ?_) | refine Pw.condT rfl ?_ | refine Pw.condF rfl ?_ | refine Pw.list (Pw.box rfl rfl rfl rfl (fun _ => freeHead ?_)) | refine Pw.list (Pw.alloc rfl rfl rfl rfl rfl (fun _ => ?_)) | refine Pw.list (Pw.build rfl rfl rfl rfl ?_) | refine Pw.list (Pw.ld rfl inferInstance rfl rfl rfl ?_) | refine Pw.list (Pw.sto rfl rfl inferInstance rfl rfl rfl rfl rfl inferInstance rfl ?_))
  refine Pw.list (Pw.call (rmul_ct a d y.1 z.2 ha hd la ld) rfl rfl rfl (by kernel_rfl) rfl rfl (fun w h => ⟨(hv w h), (hv w h)⟩) ?_)
  intro z1 _
  repeat (first | (with_reducible first | refine Pw.seq ?_ | refine Pw.region ?_ | refine Pw.nil ?_ | refine Pw.then_ ?_ | refine Pw.skip ?_ | refine Pw.block ?_ | refine Pw.exit ?_ | refine Pw.inX ?_ | refine Pw.inN ?_ | refine Pw.inR ?_ | refine Pw.thenX ?_ | refine Pw.thenR ?_ | refine Pw.ret ?_) | refine Pw.list (Pw.pure rfl rfl rfl ?_) | refine Pw.inY rfl ?_ | refine Pw.list (Pw.off rfl rfl ?_) | refine Pw.condT rfl ?_ | refine Pw.condF rfl ?_ | refine Pw.list (Pw.box rfl rfl rfl rfl (fun _ => freeHead ?_)) | refine Pw.list (Pw.alloc rfl rfl rfl rfl rfl (fun _ => ?_)) | refine Pw.list (Pw.build rfl rfl rfl rfl ?_) | refine Pw.list (Pw.ld rfl inferInstance rfl rfl rfl ?_) | refine Pw.list (Pw.sto rfl rfl inferInstance rfl rfl rfl rfl rfl inferInstance rfl ?_))
  have hb1 := rbounded_ct (natL (val a * val d)) z1
  by_cases q1 : (natL (val a * val d)).length ≤ 400
  · rw [bd_ok q1] at hb1
    refine Pw.list (Pw.call hb1 rfl rfl rfl (by kernel_rfl) rfl rfl (fun w h => (hv w h)) ?_)
    intro z2 _
    repeat (first | (with_reducible first | refine Pw.seq ?_ | refine Pw.region ?_ | refine Pw.nil ?_ | refine Pw.then_ ?_ | refine Pw.skip ?_ | refine Pw.block ?_ | refine Pw.exit ?_ | refine Pw.inX ?_ | refine Pw.inN ?_ | refine Pw.inR ?_ | refine Pw.thenX ?_ | refine Pw.thenR ?_ | refine Pw.ret ?_) | refine Pw.list (Pw.pure rfl rfl rfl ?_) | refine Pw.inY rfl ?_ | refine Pw.list (Pw.off rfl rfl ?_) | refine Pw.condT rfl ?_ | refine Pw.condF rfl ?_ | refine Pw.list (Pw.box rfl rfl rfl rfl (fun _ => freeHead ?_)) | refine Pw.list (Pw.alloc rfl rfl rfl rfl rfl (fun _ => ?_)) | refine Pw.list (Pw.build rfl rfl rfl rfl ?_) | refine Pw.list (Pw.ld rfl inferInstance rfl rfl rfl ?_) | refine Pw.list (Pw.sto rfl rfl inferInstance rfl rfl rfl rfl rfl inferInstance rfl ?_))
    refine Pw.list (Pw.call (rmul_ct c b z.1 y.2 hc hb lc lb) rfl rfl rfl (by kernel_rfl) rfl rfl (fun w h => ⟨(hv w h), (hv w h)⟩) ?_)
    intro z3 _
    repeat (first | (with_reducible first | refine Pw.seq ?_ | refine Pw.region ?_ | refine Pw.nil ?_ | refine Pw.then_ ?_ | refine Pw.skip ?_ | refine Pw.block ?_ | refine Pw.exit ?_ | refine Pw.inX ?_ | refine Pw.inN ?_ | refine Pw.inR ?_ | refine Pw.thenX ?_ | refine Pw.thenR ?_ | refine Pw.ret ?_) | refine Pw.list (Pw.pure rfl rfl rfl ?_) | refine Pw.inY rfl ?_ | refine Pw.list (Pw.off rfl rfl ?_) | refine Pw.condT rfl ?_ | refine Pw.condF rfl ?_ | refine Pw.list (Pw.box rfl rfl rfl rfl (fun _ => freeHead ?_)) | refine Pw.list (Pw.alloc rfl rfl rfl rfl rfl (fun _ => ?_)) | refine Pw.list (Pw.build rfl rfl rfl rfl ?_) | refine Pw.list (Pw.ld rfl inferInstance rfl rfl rfl ?_) | refine Pw.list (Pw.sto rfl rfl inferInstance rfl rfl rfl rfl rfl inferInstance rfl ?_))
    have hb2 := rbounded_ct (natL (val c * val b)) z3
    by_cases q2 : (natL (val c * val b)).length ≤ 400
    · rw [bd_ok q2] at hb2
      rw [if_pos ⟨q1, q2⟩]
      refine Pw.list (Pw.call hb2 rfl rfl rfl (by kernel_rfl) rfl rfl (fun w h => (hv w h)) ?_)
      intro z4 _
      repeat (first | (with_reducible first | refine Pw.seq ?_ | refine Pw.region ?_ | refine Pw.nil ?_ | refine Pw.then_ ?_ | refine Pw.skip ?_ | refine Pw.block ?_ | refine Pw.exit ?_ | refine Pw.inX ?_ | refine Pw.inN ?_ | refine Pw.inR ?_ | refine Pw.thenX ?_ | refine Pw.thenR ?_ | refine Pw.ret ?_) | refine Pw.list (Pw.pure rfl rfl rfl ?_) | refine Pw.inY rfl ?_ | refine Pw.list (Pw.off rfl rfl ?_) | refine Pw.condT rfl ?_ | refine Pw.condF rfl ?_ | refine Pw.list (Pw.box rfl rfl rfl rfl (fun _ => freeHead ?_)) | refine Pw.list (Pw.alloc rfl rfl rfl rfl rfl (fun _ => ?_)) | refine Pw.list (Pw.build rfl rfl rfl rfl ?_) | refine Pw.list (Pw.ld rfl inferInstance rfl rfl rfl ?_) | refine Pw.list (Pw.sto rfl rfl inferInstance rfl rfl rfl rfl rfl inferInstance rfl ?_))
      exact Pw.ret_ (x := (z2, z4)) (.tmp rfl (.tmp rfl (.tmp rfl .nil))) rfl trivial (fun w h => ⟨(hv w h), (hv w h)⟩)
    · rw [bd_no q2] at hb2
      rw [if_neg (fun e => q2 e.2)]
      refine Pw.list (Pw.call hb2 rfl rfl rfl (by kernel_rfl) rfl rfl (fun w h => (hv w h)) ?_)
      intro z4 _
      repeat (first | (with_reducible first | refine Pw.seq ?_ | refine Pw.region ?_ | refine Pw.nil ?_ | refine Pw.then_ ?_ | refine Pw.skip ?_ | refine Pw.block ?_ | refine Pw.exit ?_ | refine Pw.inX ?_ | refine Pw.inN ?_ | refine Pw.inR ?_ | refine Pw.thenX ?_ | refine Pw.thenR ?_ | refine Pw.ret ?_) | refine Pw.list (Pw.pure rfl rfl rfl ?_) | refine Pw.inY rfl ?_ | refine Pw.list (Pw.off rfl rfl ?_) | refine Pw.condT rfl ?_ | refine Pw.condF rfl ?_ | refine Pw.list (Pw.box rfl rfl rfl rfl (fun _ => freeHead ?_)) | refine Pw.list (Pw.alloc rfl rfl rfl rfl rfl (fun _ => ?_)) | refine Pw.list (Pw.build rfl rfl rfl rfl ?_) | refine Pw.list (Pw.ld rfl inferInstance rfl rfl rfl ?_) | refine Pw.list (Pw.sto rfl rfl inferInstance rfl rfl rfl rfl rfl inferInstance rfl ?_))
      exact Pw.ret_ (x := z0) (.tmp rfl (.tmp rfl (.tmp rfl .nil))) rfl trivial (fun w h => R2.nil w)
  · rw [bd_no q1] at hb1
    rw [if_neg (fun e => q1 e.1)]
    refine Pw.list (Pw.call hb1 rfl rfl rfl (by kernel_rfl) rfl rfl (fun w h => (hv w h)) ?_)
    intro z2 _
    repeat (first | (with_reducible first | refine Pw.seq ?_ | refine Pw.region ?_ | refine Pw.nil ?_ | refine Pw.then_ ?_ | refine Pw.skip ?_ | refine Pw.block ?_ | refine Pw.exit ?_ | refine Pw.inX ?_ | refine Pw.inN ?_ | refine Pw.inR ?_ | refine Pw.thenX ?_ | refine Pw.thenR ?_ | refine Pw.ret ?_) | refine Pw.list (Pw.pure rfl rfl rfl ?_) | refine Pw.inY rfl ?_ | refine Pw.list (Pw.off rfl rfl ?_) | refine Pw.condT rfl ?_ | refine Pw.condF rfl ?_ | refine Pw.list (Pw.box rfl rfl rfl rfl (fun _ => freeHead ?_)) | refine Pw.list (Pw.alloc rfl rfl rfl rfl rfl (fun _ => ?_)) | refine Pw.list (Pw.build rfl rfl rfl rfl ?_) | refine Pw.list (Pw.ld rfl inferInstance rfl rfl rfl ?_) | refine Pw.list (Pw.sto rfl rfl inferInstance rfl rfl rfl rfl rfl inferInstance rfl ?_))
    refine Pw.list (Pw.call (rmul_ct c b z.1 y.2 hc hb lc lb) rfl rfl rfl (by kernel_rfl) rfl rfl (fun w h => ⟨(hv w h), (hv w h)⟩) ?_)
    intro z3 _
    repeat (first | (with_reducible first | refine Pw.seq ?_ | refine Pw.region ?_ | refine Pw.nil ?_ | refine Pw.then_ ?_ | refine Pw.skip ?_ | refine Pw.block ?_ | refine Pw.exit ?_ | refine Pw.inX ?_ | refine Pw.inN ?_ | refine Pw.inR ?_ | refine Pw.thenX ?_ | refine Pw.thenR ?_ | refine Pw.ret ?_) | refine Pw.list (Pw.pure rfl rfl rfl ?_) | refine Pw.inY rfl ?_ | refine Pw.list (Pw.off rfl rfl ?_) | refine Pw.condT rfl ?_ | refine Pw.condF rfl ?_ | refine Pw.list (Pw.box rfl rfl rfl rfl (fun _ => freeHead ?_)) | refine Pw.list (Pw.alloc rfl rfl rfl rfl rfl (fun _ => ?_)) | refine Pw.list (Pw.build rfl rfl rfl rfl ?_) | refine Pw.list (Pw.ld rfl inferInstance rfl rfl rfl ?_) | refine Pw.list (Pw.sto rfl rfl inferInstance rfl rfl rfl rfl rfl inferInstance rfl ?_))
    refine Pw.list (Pw.call (rbounded_ct (natL (val c * val b)) z3) rfl rfl rfl (by kernel_rfl) rfl rfl (fun w h => (hv w h)) ?_)
    intro z4 _
    repeat (first | (with_reducible first | refine Pw.seq ?_ | refine Pw.region ?_ | refine Pw.nil ?_ | refine Pw.then_ ?_ | refine Pw.skip ?_ | refine Pw.block ?_ | refine Pw.exit ?_ | refine Pw.inX ?_ | refine Pw.inN ?_ | refine Pw.inR ?_ | refine Pw.thenX ?_ | refine Pw.thenR ?_ | refine Pw.ret ?_) | refine Pw.list (Pw.pure rfl rfl rfl ?_) | refine Pw.inY rfl ?_ | refine Pw.list (Pw.off rfl rfl ?_) | refine Pw.condT rfl ?_ | refine Pw.condF rfl ?_ | refine Pw.list (Pw.box rfl rfl rfl rfl (fun _ => freeHead ?_)) | refine Pw.list (Pw.alloc rfl rfl rfl rfl rfl (fun _ => ?_)) | refine Pw.list (Pw.build rfl rfl rfl rfl ?_) | refine Pw.list (Pw.ld rfl inferInstance rfl rfl rfl ?_) | refine Pw.list (Pw.sto rfl rfl inferInstance rfl rfl rfl rfl rfl inferInstance rfl ?_))
    exact Pw.ret_ (x := z0) (.tmp rfl (.tmp rfl (.tmp rfl .nil))) rfl trivial (fun w h => R2.nil w)
theorem low_len {p q : Int} (hq : 0 < q) (h2 : (natL q).length ≤ 400) : (natL q).length ≠ 0 ∧ (natL q).length < 1048576 := ⟨fun e => by have := (natL_len_zero (show 0 ≤ q by omega)).1 e; omega, by omega⟩
end Go.Proofs.Wk
/- Walks of the laws of layer 2: their helpers. -/
namespace Go.Proofs.Wk
open Go.RowKit
set_option maxRecDepth 100000
attribute [local irreducible] Pw OpG
set_option linter.unusedVariables false
set_option linter.unusedSimpArgs false
theorem Theirs_ct (a b : List Int) (z : Z2) : Ct Try.prog 20 #[rt a b z] (fun _ => True) (fun _ : Unit => rt a b z) Tt (fun _ _ => True) := by
  refine Ct.start Try.func20 rfl rfl (slots_of rfl slots1) (fun D w0 => ?_)
  repeat (first | (with_reducible first | refine Pw.seq ?_ | refine Pw.region ?_ | refine Pw.nil ?_ | refine Pw.then_ ?_ | refine Pw.skip ?_ | refine Pw.block ?_ | refine Pw.exit ?_ | refine Pw.inX ?_ | refine Pw.inN ?_ | refine Pw.inR ?_ | refine Pw.thenX ?_ | refine Pw.thenR ?_ | refine Pw.ret ?_) | refine Pw.list (Pw.pure rfl rfl rfl ?_) | refine Pw.inY rfl ?_ | refine Pw.list (Pw.off rfl rfl ?_) | refine Pw.condT rfl ?_ | refine Pw.condF rfl ?_ | refine Pw.list (Pw.box rfl rfl rfl rfl (fun _ => freeHead ?_)) | refine Pw.list (Pw.alloc rfl rfl rfl rfl rfl (fun _ => ?_)) | refine Pw.list (Pw.build rfl rfl rfl rfl ?_) | refine Pw.list (Pw.ld rfl inferInstance rfl rfl rfl ?_) | refine Pw.list (Pw.sto rfl rfl inferInstance rfl rfl rfl rfl rfl inferInstance rfl ?_))
  exact Pw.ret_ (x := ()) (.cell rfl (fun w hs => hs.own _ (.head _)) rfl .nil) rfl trivial (fun w h => by trivial)
theorem Ours_ct (a b : List Int) (z : Z2) : Ct Try.prog 34 #[rt a b z] (fun _ => True) (fun _ : Unit => rt a b z) Tt (fun _ _ => True) := by
  refine Ct.start Try.func34 rfl rfl (slots_of rfl slots1) (fun D w0 => ?_)
  repeat (first | (with_reducible first | refine Pw.seq ?_ | refine Pw.region ?_ | refine Pw.nil ?_ | refine Pw.then_ ?_ | refine Pw.skip ?_ | refine Pw.block ?_ | refine Pw.exit ?_ | refine Pw.inX ?_ | refine Pw.inN ?_ | refine Pw.inR ?_ | refine Pw.thenX ?_ | refine Pw.thenR ?_ | refine Pw.ret ?_) | refine Pw.list (Pw.pure rfl rfl rfl ?_) | refine Pw.inY rfl ?_ | refine Pw.list (Pw.off rfl rfl ?_) | refine Pw.condT rfl ?_ | refine Pw.condF rfl ?_ | refine Pw.list (Pw.box rfl rfl rfl rfl (fun _ => freeHead ?_)) | refine Pw.list (Pw.alloc rfl rfl rfl rfl rfl (fun _ => ?_)) | refine Pw.list (Pw.build rfl rfl rfl rfl ?_) | refine Pw.list (Pw.ld rfl inferInstance rfl rfl rfl ?_) | refine Pw.list (Pw.sto rfl rfl inferInstance rfl rfl rfl rfl rfl inferInstance rfl ?_))
  exact Pw.ret_ (x := ()) (.cell rfl (fun w hs => hs.own _ (.head _)) rfl .nil) rfl trivial (fun w h => by trivial)
theorem rat_Same_ct (a b : List Int) (y z : Z2) (ha : Fm a) (hb : Fm b) (la : a.length < 1048576) (lb : b.length < 1048576) :
    Ct Try.prog 11 #[rt a b y, rt a b z] (fun W => R2 a b y W ∧ R2 a b z W) (fun _ : Unit => .bool true) Tt (fun _ _ => True) := by
  refine Ct.start Try.func11 rfl rfl (slots_of rfl slots2) (fun D w0 => Pw.facts two2 ?_)
  repeat (first | (with_reducible first | refine Pw.seq ?_ | refine Pw.region ?_ | refine Pw.nil ?_ | refine Pw.then_ ?_ | refine Pw.skip ?_ | refine Pw.block ?_ | refine Pw.exit ?_ | refine Pw.inX ?_ | refine Pw.inN ?_ | refine Pw.inR ?_ | refine Pw.thenX ?_ | refine Pw.thenR ?_ | refine Pw.ret ?_) | refine Pw.list (Pw.pure rfl rfl rfl ?_) | refine Pw.inY rfl ?_ | refine Pw.list (Pw.off rfl rfl ?_) | refine Pw.condT rfl ?_ | refine Pw.condF rfl ?_ | refine Pw.list (Pw.box rfl rfl rfl rfl (fun _ => freeHead ?_)) | refine Pw.list (Pw.alloc rfl rfl rfl rfl rfl (fun _ => ?_)) | refine Pw.list (Pw.build rfl rfl rfl rfl ?_) | refine Pw.list (Pw.ld rfl inferInstance rfl rfl rfl ?_) | refine Pw.list (Pw.sto rfl rfl inferInstance rfl rfl rfl rfl rfl inferInstance rfl ?_))
  have hs := SameRatio_ct a b a b y z ha hb ha hb la lb la lb
  rw [decide_eq_true rfl, decide_eq_true rfl] at hs
  refine Pw.drawnG mixed rfl rfl ?_
  refine Pw.takeF 0 (nb 5 1) rfl rfl inferInstance rfl rfl rfl (by kernel_rfl) np sf ?_
  refine Pw.takeF 2 (nb 5 5) rfl rfl inferInstance rfl rfl rfl (by kernel_rfl) np sf ?_
  refine Pw.one 1 (nb 5 7) rfl (by kernel_rfl) ?_
  refine Pw.call (Ours_ct a b y) rfl rfl rfl (by kernel_rfl) rfl rfl (fun w h => trivial) ?_
  intro _ _
  refine Pw.held sf ?_
  refine Pw.one 3 (nb 5 15) rfl (by kernel_rfl) ?_
  refine Pw.call hs rfl rfl rfl (by kernel_rfl) rfl rfl (fun w h => ⟨(by first | exact fact3 h | exact fact3 (allTail h) | exact fact2 h), (by first | exact fact3 (allTail h) | exact fact3 h)⟩) ?_
  intro _ _
  refine Pw.held sf ?_
  refine Pw.takeP 4 (nb 5 31) rfl rfl rfl rfl (by kernel_rfl) np sf ?_
  refine Pw.done (by kernel_rfl) ?_
  skip
  repeat (first | (with_reducible first | refine Pw.seq ?_ | refine Pw.region ?_ | refine Pw.nil ?_ | refine Pw.then_ ?_ | refine Pw.skip ?_ | refine Pw.block ?_ | refine Pw.exit ?_ | refine Pw.inX ?_ | refine Pw.inN ?_ | refine Pw.inR ?_ | refine Pw.thenX ?_ | refine Pw.thenR ?_ | refine Pw.ret ?_) | refine Pw.list (Pw.pure rfl rfl rfl ?_) | refine Pw.inY rfl ?_ | refine Pw.list (Pw.off rfl rfl ?_) | refine Pw.condT rfl ?_ | refine Pw.condF rfl ?_)
  exact Pw.ret_ (x := ()) (.tmp rfl .nil) rfl trivial (fun w h => by trivial)
end Go.Proofs.Wk
/- The law RatioProducts walked. -/
namespace Go.Proofs.Wk
open Go.RowKit
set_option maxRecDepth 100000
set_option maxHeartbeats 4000000
attribute [local irreducible] Pw OpG
set_option linter.unusedVariables false
set_option linter.unusedSimpArgs false
theorem lowS_len {p q : Int} (hp : 0 ≤ p) (hq : 0 < q) (h1 : (natL p).length ≤ 400) (h2 : (natL q).length ≤ 400) : (lowS (natL p) (natL q)).1.length < 1048576 ∧ (lowS (natL p) (natL q)).2.length < 1048576 := by
  unfold lowS
  have l1 := val_lt_pw (natL_fm p).1
  have l2 := val_lt_pw (natL_fm q).1
  rw [val_natL hp] at *
  rw [val_natL (show 0 ≤ q by omega)] at *
  have g0 := gcdI_pos (x := p) hq
  have d1 : p / gcdI p q ≤ p := Int.ediv_le_self _ hp
  have d2 : q / gcdI p q ≤ q := Int.ediv_le_self _ (by omega)
  have e1 := natL_len_le (n := (natL p).length) (Int.ediv_nonneg hp (show 0 ≤ gcdI p q by omega)) (by omega)
  have e2 := natL_len_le (n := (natL q).length) (Int.ediv_nonneg (show 0 ≤ q by omega) (show 0 ≤ gcdI p q by omega)) (by omega)
  exact ⟨by show (natL _).length < _; omega, by show (natL _).length < _; omega⟩
theorem makeS_ok (a b : List Int) (ha : Lm a) (hb : Lm b) : Fm (makeS a b).1 ∧ Fm (makeS a b).2.1 ∧ (makeS a b).1.length < 1048576 ∧ (makeS a b).2.1.length < 1048576 := by
  unfold makeS
  split
  next h =>
    split
    · exact ⟨fm_nil, fm_nil, by simp, by simp⟩
    next h0 =>
      obtain ⟨ea, la, va, pa⟩ := fm_of ha h.1
      obtain ⟨eb, lb, vb, pb⟩ := fm_of hb h.2
      have hbp := val_pos_of ((fmB_iff hb).1 h.2).2 h0
      have hl := lowS_len va hbp (by rw [← ea]; omega) (by rw [← eb]; omega)
      rw [← ea, ← eb] at hl
      exact ⟨natL_fm _, natL_fm _, hl.1, hl.2⟩
  · exact ⟨fm_nil, fm_nil, by simp, by simp⟩
theorem endS_ok (e e' : Int) (a b : List Int) (ha : Lm a) (hb : Lm b) : Fm (endS e e' a b).1 ∧ Fm (endS e e' a b).2.1 ∧ (endS e e' a b).1.length < 1048576 ∧ (endS e e' a b).2.1.length < 1048576 := by
  unfold endS
  split
  · exact ⟨fm_nil, fm_nil, by simp, by simp⟩
  · split
    · exact ⟨fm_nil, fm_nil, by simp, by simp⟩
    · exact makeS_ok a b ha hb
end Go.Proofs.Wk
/- Walks of the reference's fractions: comparing, adding, subtracting, the lesser one. -/
namespace Go.Proofs.Wk
open Go.RowKit
set_option maxRecDepth 100000
set_option maxHeartbeats 4000000
attribute [local irreducible] Pw OpG
set_option linter.unusedVariables false
set_option linter.unusedSimpArgs false
theorem AddRatio_ct (a b c d : List Int) (y z : Z2) (ha : Lm a) (hb : Lm b) (hc : Lm c) (hd : Lm d) (la : a.length < 1048576) (lb : b.length < 1048576) (lc : c.length < 1048576) (ld : d.length < 1048576) :
    Ct Try.prog 32 #[rt a b y, rt c d z] (fun W => R2 a b y W ∧ R2 c d z W) (fun x : Z2 => .tuple #[rt (joinS addS a b c d).1 (joinS addS a b c d).2.1 x, .int .i64 (joinS addS a b c d).2.2]) Tt (fun x => R2 (joinS addS a b c d).1 (joinS addS a b c d).2.1 x) := by
  refine Ct.start Try.func32 rfl rfl (slots_of rfl slots2) (fun D w0 => Pw.facts two2 ?_)
  have key := @raddS_eq a b c d ha hb hc hd
  repeat (first | (with_reducible first | refine Pw.seq ?_ | refine Pw.region ?_ | refine Pw.nil ?_ | refine Pw.then_ ?_ | refine Pw.skip ?_ | refine Pw.block ?_ | refine Pw.exit ?_ | refine Pw.inX ?_ | refine Pw.inN ?_ | refine Pw.inR ?_ | refine Pw.thenX ?_ | refine Pw.thenR ?_ | refine Pw.ret ?_) | refine Pw.list (Pw.pure rfl rfl rfl ?_) | refine Pw.inY rfl ?_ | refine Pw.list (Pw.off rfl rfl ?_) | refine Pw.condT rfl ?_ | refine Pw.condF rfl ?_ | refine Pw.list (Pw.box rfl rfl rfl rfl (fun _ => freeHead ?_)) | refine Pw.list (Pw.alloc rfl rfl rfl rfl rfl (fun _ => ?_)) | refine Pw.list (Pw.build rfl rfl rfl rfl ?_) | refine Pw.list (Pw.ld rfl inferInstance rfl rfl rfl ?_) | refine Pw.list (Pw.sto rfl rfl inferInstance rfl rfl rfl rfl rfl inferInstance rfl ?_))
  refine Pw.list (Pw.call (FormedRatio_ct a b y ha hb la lb) rfl rfl rfl (by kernel_rfl) rfl rfl (fun w h => (hv w h)) ?_)
  intro _ _
  cases hf : formedR a b
  · rw [show joinS addS a b c d = ([], [], 1) by unfold joinS; rw [if_neg (by simp [hf])]]
    repeat (first | (with_reducible first | refine Pw.seq ?_ | refine Pw.region ?_ | refine Pw.nil ?_ | refine Pw.then_ ?_ | refine Pw.skip ?_ | refine Pw.block ?_ | refine Pw.exit ?_ | refine Pw.inX ?_ | refine Pw.inN ?_ | refine Pw.inR ?_ | refine Pw.thenX ?_ | refine Pw.thenR ?_ | refine Pw.ret ?_) | refine Pw.list (Pw.pure rfl rfl rfl ?_) | refine Pw.inY rfl ?_ | refine Pw.list (Pw.off rfl rfl ?_) | refine Pw.condT rfl ?_ | refine Pw.condF rfl ?_ | refine Pw.list (Pw.box rfl rfl rfl rfl (fun _ => freeHead ?_)) | refine Pw.list (Pw.alloc rfl rfl rfl rfl rfl (fun _ => ?_)) | refine Pw.list (Pw.build rfl rfl rfl rfl ?_) | refine Pw.list (Pw.ld rfl inferInstance rfl rfl rfl ?_) | refine Pw.list (Pw.sto rfl rfl inferInstance rfl rfl rfl rfl rfl inferInstance rfl ?_))
    exact Pw.ret_ (x := z0) (.cell rfl (fun w hs => hs.own _ (.head _)) rfl (.tmp rfl .nil)) rfl trivial (fun w h => R2.nil w)
  repeat (first | (with_reducible first | refine Pw.seq ?_ | refine Pw.region ?_ | refine Pw.nil ?_ | refine Pw.then_ ?_ | refine Pw.skip ?_ | refine Pw.block ?_ | refine Pw.exit ?_ | refine Pw.inX ?_ | refine Pw.inN ?_ | refine Pw.inR ?_ | refine Pw.thenX ?_ | refine Pw.thenR ?_ | refine Pw.ret ?_) | refine Pw.list (Pw.pure rfl rfl rfl ?_) | refine Pw.inY rfl ?_ | refine Pw.list (Pw.off rfl rfl ?_) | refine Pw.condT rfl ?_ | refine Pw.condF rfl ?_ | refine Pw.list (Pw.box rfl rfl rfl rfl (fun _ => freeHead ?_)) | refine Pw.list (Pw.alloc rfl rfl rfl rfl rfl (fun _ => ?_)) | refine Pw.list (Pw.build rfl rfl rfl rfl ?_) | refine Pw.list (Pw.ld rfl inferInstance rfl rfl rfl ?_) | refine Pw.list (Pw.sto rfl rfl inferInstance rfl rfl rfl rfl rfl inferInstance rfl ?_))
  refine Pw.list (Pw.call (FormedRatio_ct c d z hc hd lc ld) rfl rfl rfl (by kernel_rfl) rfl rfl (fun w h => (hv w h)) ?_)
  intro _ _
  cases hg : formedR c d
  · rw [show joinS addS a b c d = ([], [], 1) by unfold joinS; rw [if_neg (by simp [hg])]]
    repeat (first | (with_reducible first | refine Pw.seq ?_ | refine Pw.region ?_ | refine Pw.nil ?_ | refine Pw.then_ ?_ | refine Pw.skip ?_ | refine Pw.block ?_ | refine Pw.exit ?_ | refine Pw.inX ?_ | refine Pw.inN ?_ | refine Pw.inR ?_ | refine Pw.thenX ?_ | refine Pw.thenR ?_ | refine Pw.ret ?_) | refine Pw.list (Pw.pure rfl rfl rfl ?_) | refine Pw.inY rfl ?_ | refine Pw.list (Pw.off rfl rfl ?_) | refine Pw.condT rfl ?_ | refine Pw.condF rfl ?_ | refine Pw.list (Pw.box rfl rfl rfl rfl (fun _ => freeHead ?_)) | refine Pw.list (Pw.alloc rfl rfl rfl rfl rfl (fun _ => ?_)) | refine Pw.list (Pw.build rfl rfl rfl rfl ?_) | refine Pw.list (Pw.ld rfl inferInstance rfl rfl rfl ?_) | refine Pw.list (Pw.sto rfl rfl inferInstance rfl rfl rfl rfl rfl inferInstance rfl ?_))
    exact Pw.ret_ (x := z0) (.cell rfl (fun w hs => hs.own _ (.head _)) rfl (.tmp rfl .nil)) rfl trivial (fun w h => R2.nil w)
  rw [key hf hg]
  obtain ⟨f1, f2, f3, _⟩ := formedR_spec ha hb hf
  obtain ⟨g1, g2, g3, _⟩ := formedR_spec hc hd hg
  have hq := Int.mul_pos (fm_pos hb f2 f3) (fm_pos hd g2 g3)
  have p1 := Int.mul_nonneg (val_nonneg ha) (val_nonneg hd)
  have p2 := Int.mul_nonneg (val_nonneg hc) (val_nonneg hb)
  have hx := cross_ct a b c d y z ha hb hc hd la lb lc ld
  unfold crossS at hx
  repeat (first | (with_reducible first | refine Pw.seq ?_ | refine Pw.region ?_ | refine Pw.nil ?_ | refine Pw.then_ ?_ | refine Pw.skip ?_ | refine Pw.block ?_ | refine Pw.exit ?_ | refine Pw.inX ?_ | refine Pw.inN ?_ | refine Pw.inR ?_ | refine Pw.thenX ?_ | refine Pw.thenR ?_ | refine Pw.ret ?_) | refine Pw.list (Pw.pure rfl rfl rfl ?_) | refine Pw.inY rfl ?_ | refine Pw.list (Pw.off rfl rfl ?_) | refine Pw.condT rfl ?_ | refine Pw.condF rfl ?_ | refine Pw.list (Pw.box rfl rfl rfl rfl (fun _ => freeHead ?_)) | refine Pw.list (Pw.alloc rfl rfl rfl rfl rfl (fun _ => ?_)) | refine Pw.list (Pw.build rfl rfl rfl rfl ?_) | refine Pw.list (Pw.ld rfl inferInstance rfl rfl rfl ?_) | refine Pw.list (Pw.sto rfl rfl inferInstance rfl rfl rfl rfl rfl inferInstance rfl ?_))
  by_cases q : (natL (val a * val d)).length ≤ 400 ∧ (natL (val c * val b)).length ≤ 400
  · rw [if_pos q] at hx
    refine Pw.list (Pw.call hx rfl rfl rfl (by kernel_rfl) rfl rfl (fun w h => ⟨(hv w h), (hv w h)⟩) ?_)
    intro z1 _
    repeat (first | (with_reducible first | refine Pw.seq ?_ | refine Pw.region ?_ | refine Pw.nil ?_ | refine Pw.then_ ?_ | refine Pw.skip ?_ | refine Pw.block ?_ | refine Pw.exit ?_ | refine Pw.inX ?_ | refine Pw.inN ?_ | refine Pw.inR ?_ | refine Pw.thenX ?_ | refine Pw.thenR ?_ | refine Pw.ret ?_) | refine Pw.list (Pw.pure rfl rfl rfl ?_) | refine Pw.inY rfl ?_ | refine Pw.list (Pw.off rfl rfl ?_) | refine Pw.condT rfl ?_ | refine Pw.condF rfl ?_ | refine Pw.list (Pw.box rfl rfl rfl rfl (fun _ => freeHead ?_)) | refine Pw.list (Pw.alloc rfl rfl rfl rfl rfl (fun _ => ?_)) | refine Pw.list (Pw.build rfl rfl rfl rfl ?_) | refine Pw.list (Pw.ld rfl inferInstance rfl rfl rfl ?_) | refine Pw.list (Pw.sto rfl rfl inferInstance rfl rfl rfl rfl rfl inferInstance rfl ?_))
    refine Pw.list (Pw.call (rmul_ct b d y.2 z.2 hb hd lb ld) rfl rfl rfl (by kernel_rfl) rfl rfl (fun w h => ⟨(hv w h), (hv w h)⟩) ?_)
    intro z2 _
    repeat (first | (with_reducible first | refine Pw.seq ?_ | refine Pw.region ?_ | refine Pw.nil ?_ | refine Pw.then_ ?_ | refine Pw.skip ?_ | refine Pw.block ?_ | refine Pw.exit ?_ | refine Pw.inX ?_ | refine Pw.inN ?_ | refine Pw.inR ?_ | refine Pw.thenX ?_ | refine Pw.thenR ?_ | refine Pw.ret ?_) | refine Pw.list (Pw.pure rfl rfl rfl ?_) | refine Pw.inY rfl ?_ | refine Pw.list (Pw.off rfl rfl ?_) | refine Pw.condT rfl ?_ | refine Pw.condF rfl ?_ | refine Pw.list (Pw.box rfl rfl rfl rfl (fun _ => freeHead ?_)) | refine Pw.list (Pw.alloc rfl rfl rfl rfl rfl (fun _ => ?_)) | refine Pw.list (Pw.build rfl rfl rfl rfl ?_) | refine Pw.list (Pw.ld rfl inferInstance rfl rfl rfl ?_) | refine Pw.list (Pw.sto rfl rfl inferInstance rfl rfl rfl rfl rfl inferInstance rfl ?_))
    have hb2 := rbounded_ct (natL (val b * val d)) z2
    have hs := radd_ct (natL (val a * val d)) (natL (val c * val b)) z1.1 z1.2 (natL_fm _).1 (natL_fm _).1 (by omega) (by omega)
    rw [val_natL p1, val_natL p2] at hs
    by_cases q3 : (natL (val b * val d)).length ≤ 400
    · rw [bd_ok q3] at hb2
      refine Pw.list (Pw.call hb2 rfl rfl rfl (by kernel_rfl) rfl rfl (fun w h => (hv w h)) ?_)
      intro z3 _
      repeat (first | (with_reducible first | refine Pw.seq ?_ | refine Pw.region ?_ | refine Pw.nil ?_ | refine Pw.then_ ?_ | refine Pw.skip ?_ | refine Pw.block ?_ | refine Pw.exit ?_ | refine Pw.inX ?_ | refine Pw.inN ?_ | refine Pw.inR ?_ | refine Pw.thenX ?_ | refine Pw.thenR ?_ | refine Pw.ret ?_) | refine Pw.list (Pw.pure rfl rfl rfl ?_) | refine Pw.inY rfl ?_ | refine Pw.list (Pw.off rfl rfl ?_) | refine Pw.condT rfl ?_ | refine Pw.condF rfl ?_ | refine Pw.list (Pw.box rfl rfl rfl rfl (fun _ => freeHead ?_)) | refine Pw.list (Pw.alloc rfl rfl rfl rfl rfl (fun _ => ?_)) | refine Pw.list (Pw.build rfl rfl rfl rfl ?_) | refine Pw.list (Pw.ld rfl inferInstance rfl rfl rfl ?_) | refine Pw.list (Pw.sto rfl rfl inferInstance rfl rfl rfl rfl rfl inferInstance rfl ?_))
      refine Pw.list (Pw.call hs rfl rfl rfl (by kernel_rfl) rfl rfl (fun w h => ⟨(hv w h), (hv w h)⟩) ?_)
      intro z4 _
      repeat (first | (with_reducible first | refine Pw.seq ?_ | refine Pw.region ?_ | refine Pw.nil ?_ | refine Pw.then_ ?_ | refine Pw.skip ?_ | refine Pw.block ?_ | refine Pw.exit ?_ | refine Pw.inX ?_ | refine Pw.inN ?_ | refine Pw.inR ?_ | refine Pw.thenX ?_ | refine Pw.thenR ?_ | refine Pw.ret ?_) | refine Pw.list (Pw.pure rfl rfl rfl ?_) | refine Pw.inY rfl ?_ | refine Pw.list (Pw.off rfl rfl ?_) | refine Pw.condT rfl ?_ | refine Pw.condF rfl ?_ | refine Pw.list (Pw.box rfl rfl rfl rfl (fun _ => freeHead ?_)) | refine Pw.list (Pw.alloc rfl rfl rfl rfl rfl (fun _ => ?_)) | refine Pw.list (Pw.build rfl rfl rfl rfl ?_) | refine Pw.list (Pw.ld rfl inferInstance rfl rfl rfl ?_) | refine Pw.list (Pw.sto rfl rfl inferInstance rfl rfl rfl rfl rfl inferInstance rfl ?_))
      have hb3 := rbounded_ct (natL (val a * val d + val c * val b)) z4
      by_cases q4 : (natL (val a * val d + val c * val b)).length ≤ 400
      · rw [bd_ok q4] at hb3
        rw [if_pos ⟨q.1, q.2, q3, q4⟩]
        have hl := low_len (p := 0) hq q3
        refine Pw.list (Pw.call hb3 rfl rfl rfl (by kernel_rfl) rfl rfl (fun w h => (hv w h)) ?_)
        intro z5 _
        repeat (first | (with_reducible first | refine Pw.seq ?_ | refine Pw.region ?_ | refine Pw.nil ?_ | refine Pw.then_ ?_ | refine Pw.skip ?_ | refine Pw.block ?_ | refine Pw.exit ?_ | refine Pw.inX ?_ | refine Pw.inN ?_ | refine Pw.inR ?_ | refine Pw.thenX ?_ | refine Pw.thenR ?_ | refine Pw.ret ?_) | refine Pw.list (Pw.pure rfl rfl rfl ?_) | refine Pw.inY rfl ?_ | refine Pw.list (Pw.off rfl rfl ?_) | refine Pw.condT rfl ?_ | refine Pw.condF rfl ?_ | refine Pw.list (Pw.box rfl rfl rfl rfl (fun _ => freeHead ?_)) | refine Pw.list (Pw.alloc rfl rfl rfl rfl rfl (fun _ => ?_)) | refine Pw.list (Pw.build rfl rfl rfl rfl ?_) | refine Pw.list (Pw.ld rfl inferInstance rfl rfl rfl ?_) | refine Pw.list (Pw.sto rfl rfl inferInstance rfl rfl rfl rfl rfl inferInstance rfl ?_))
        refine Pw.list (Pw.call (lowest_ct (natL (val a * val d + val c * val b)) (natL (val b * val d)) z5 z3 (natL_fm _) (natL_fm _) hl.1 (by omega) hl.2) rfl rfl rfl (by kernel_rfl) rfl rfl (fun w h => ⟨(hv w h), (hv w h)⟩) ?_)
        intro z6 _
        repeat (first | (with_reducible first | refine Pw.seq ?_ | refine Pw.region ?_ | refine Pw.nil ?_ | refine Pw.then_ ?_ | refine Pw.skip ?_ | refine Pw.block ?_ | refine Pw.exit ?_ | refine Pw.inX ?_ | refine Pw.inN ?_ | refine Pw.inR ?_ | refine Pw.thenX ?_ | refine Pw.thenR ?_ | refine Pw.ret ?_) | refine Pw.list (Pw.pure rfl rfl rfl ?_) | refine Pw.inY rfl ?_ | refine Pw.list (Pw.off rfl rfl ?_) | refine Pw.condT rfl ?_ | refine Pw.condF rfl ?_ | refine Pw.list (Pw.box rfl rfl rfl rfl (fun _ => freeHead ?_)) | refine Pw.list (Pw.alloc rfl rfl rfl rfl rfl (fun _ => ?_)) | refine Pw.list (Pw.build rfl rfl rfl rfl ?_) | refine Pw.list (Pw.ld rfl inferInstance rfl rfl rfl ?_) | refine Pw.list (Pw.sto rfl rfl inferInstance rfl rfl rfl rfl rfl inferInstance rfl ?_))
        exact Pw.ret_ (x := z6) (.cell rfl (fun w hs => hs.own _ (.head _)) rfl (.tmp rfl .nil)) rfl trivial (fun w h => fact0 h)
      · rw [bd_no q4] at hb3
        rw [if_neg (fun e => q4 e.2.2.2)]
        refine Pw.list (Pw.call hb3 rfl rfl rfl (by kernel_rfl) rfl rfl (fun w h => (hv w h)) ?_)
        intro z5 _
        repeat (first | (with_reducible first | refine Pw.seq ?_ | refine Pw.region ?_ | refine Pw.nil ?_ | refine Pw.then_ ?_ | refine Pw.skip ?_ | refine Pw.block ?_ | refine Pw.exit ?_ | refine Pw.inX ?_ | refine Pw.inN ?_ | refine Pw.inR ?_ | refine Pw.thenX ?_ | refine Pw.thenR ?_ | refine Pw.ret ?_) | refine Pw.list (Pw.pure rfl rfl rfl ?_) | refine Pw.inY rfl ?_ | refine Pw.list (Pw.off rfl rfl ?_) | refine Pw.condT rfl ?_ | refine Pw.condF rfl ?_ | refine Pw.list (Pw.box rfl rfl rfl rfl (fun _ => freeHead ?_)) | refine Pw.list (Pw.alloc rfl rfl rfl rfl rfl (fun _ => ?_)) | refine Pw.list (Pw.build rfl rfl rfl rfl ?_) | refine Pw.list (Pw.ld rfl inferInstance rfl rfl rfl ?_) | refine Pw.list (Pw.sto rfl rfl inferInstance rfl rfl rfl rfl rfl inferInstance rfl ?_))
        exact Pw.ret_ (x := z0) (.cell rfl (fun w hs => hs.own _ (.head _)) rfl (.tmp rfl .nil)) rfl trivial (fun w h => R2.nil w)
    · rw [bd_no q3] at hb2
      rw [if_neg (fun e => q3 e.2.2.1)]
      refine Pw.list (Pw.call hb2 rfl rfl rfl (by kernel_rfl) rfl rfl (fun w h => (hv w h)) ?_)
      intro z3 _
      repeat (first | (with_reducible first | refine Pw.seq ?_ | refine Pw.region ?_ | refine Pw.nil ?_ | refine Pw.then_ ?_ | refine Pw.skip ?_ | refine Pw.block ?_ | refine Pw.exit ?_ | refine Pw.inX ?_ | refine Pw.inN ?_ | refine Pw.inR ?_ | refine Pw.thenX ?_ | refine Pw.thenR ?_ | refine Pw.ret ?_) | refine Pw.list (Pw.pure rfl rfl rfl ?_) | refine Pw.inY rfl ?_ | refine Pw.list (Pw.off rfl rfl ?_) | refine Pw.condT rfl ?_ | refine Pw.condF rfl ?_ | refine Pw.list (Pw.box rfl rfl rfl rfl (fun _ => freeHead ?_)) | refine Pw.list (Pw.alloc rfl rfl rfl rfl rfl (fun _ => ?_)) | refine Pw.list (Pw.build rfl rfl rfl rfl ?_) | refine Pw.list (Pw.ld rfl inferInstance rfl rfl rfl ?_) | refine Pw.list (Pw.sto rfl rfl inferInstance rfl rfl rfl rfl rfl inferInstance rfl ?_))
      refine Pw.list (Pw.call hs rfl rfl rfl (by kernel_rfl) rfl rfl (fun w h => ⟨(hv w h), (hv w h)⟩) ?_)
      intro z4 _
      repeat (first | (with_reducible first | refine Pw.seq ?_ | refine Pw.region ?_ | refine Pw.nil ?_ | refine Pw.then_ ?_ | refine Pw.skip ?_ | refine Pw.block ?_ | refine Pw.exit ?_ | refine Pw.inX ?_ | refine Pw.inN ?_ | refine Pw.inR ?_ | refine Pw.thenX ?_ | refine Pw.thenR ?_ | refine Pw.ret ?_) | refine Pw.list (Pw.pure rfl rfl rfl ?_) | refine Pw.inY rfl ?_ | refine Pw.list (Pw.off rfl rfl ?_) | refine Pw.condT rfl ?_ | refine Pw.condF rfl ?_ | refine Pw.list (Pw.box rfl rfl rfl rfl (fun _ => freeHead ?_)) | refine Pw.list (Pw.alloc rfl rfl rfl rfl rfl (fun _ => ?_)) | refine Pw.list (Pw.build rfl rfl rfl rfl ?_) | refine Pw.list (Pw.ld rfl inferInstance rfl rfl rfl ?_) | refine Pw.list (Pw.sto rfl rfl inferInstance rfl rfl rfl rfl rfl inferInstance rfl ?_))
      refine Pw.list (Pw.call (rbounded_ct (natL (val a * val d + val c * val b)) z4) rfl rfl rfl (by kernel_rfl) rfl rfl (fun w h => (hv w h)) ?_)
      intro z5 _
      repeat (first | (with_reducible first | refine Pw.seq ?_ | refine Pw.region ?_ | refine Pw.nil ?_ | refine Pw.then_ ?_ | refine Pw.skip ?_ | refine Pw.block ?_ | refine Pw.exit ?_ | refine Pw.inX ?_ | refine Pw.inN ?_ | refine Pw.inR ?_ | refine Pw.thenX ?_ | refine Pw.thenR ?_ | refine Pw.ret ?_) | refine Pw.list (Pw.pure rfl rfl rfl ?_) | refine Pw.inY rfl ?_ | refine Pw.list (Pw.off rfl rfl ?_) | refine Pw.condT rfl ?_ | refine Pw.condF rfl ?_ | refine Pw.list (Pw.box rfl rfl rfl rfl (fun _ => freeHead ?_)) | refine Pw.list (Pw.alloc rfl rfl rfl rfl rfl (fun _ => ?_)) | refine Pw.list (Pw.build rfl rfl rfl rfl ?_) | refine Pw.list (Pw.ld rfl inferInstance rfl rfl rfl ?_) | refine Pw.list (Pw.sto rfl rfl inferInstance rfl rfl rfl rfl rfl inferInstance rfl ?_))
      exact Pw.ret_ (x := z0) (.cell rfl (fun w hs => hs.own _ (.head _)) rfl (.tmp rfl .nil)) rfl trivial (fun w h => R2.nil w)
  · rw [if_neg q] at hx
    rw [if_neg (fun e => q ⟨e.1, e.2.1⟩)]
    refine Pw.list (Pw.call hx rfl rfl rfl (by kernel_rfl) rfl rfl (fun w h => ⟨(hv w h), (hv w h)⟩) ?_)
    intro z1 _
    repeat (first | (with_reducible first | refine Pw.seq ?_ | refine Pw.region ?_ | refine Pw.nil ?_ | refine Pw.then_ ?_ | refine Pw.skip ?_ | refine Pw.block ?_ | refine Pw.exit ?_ | refine Pw.inX ?_ | refine Pw.inN ?_ | refine Pw.inR ?_ | refine Pw.thenX ?_ | refine Pw.thenR ?_ | refine Pw.ret ?_) | refine Pw.list (Pw.pure rfl rfl rfl ?_) | refine Pw.inY rfl ?_ | refine Pw.list (Pw.off rfl rfl ?_) | refine Pw.condT rfl ?_ | refine Pw.condF rfl ?_ | refine Pw.list (Pw.box rfl rfl rfl rfl (fun _ => freeHead ?_)) | refine Pw.list (Pw.alloc rfl rfl rfl rfl rfl (fun _ => ?_)) | refine Pw.list (Pw.build rfl rfl rfl rfl ?_) | refine Pw.list (Pw.ld rfl inferInstance rfl rfl rfl ?_) | refine Pw.list (Pw.sto rfl rfl inferInstance rfl rfl rfl rfl rfl inferInstance rfl ?_))
    refine Pw.list (Pw.call (rmul_ct b d y.2 z.2 hb hd lb ld) rfl rfl rfl (by kernel_rfl) rfl rfl (fun w h => ⟨(hv w h), (hv w h)⟩) ?_)
    intro z2 _
    repeat (first | (with_reducible first | refine Pw.seq ?_ | refine Pw.region ?_ | refine Pw.nil ?_ | refine Pw.then_ ?_ | refine Pw.skip ?_ | refine Pw.block ?_ | refine Pw.exit ?_ | refine Pw.inX ?_ | refine Pw.inN ?_ | refine Pw.inR ?_ | refine Pw.thenX ?_ | refine Pw.thenR ?_ | refine Pw.ret ?_) | refine Pw.list (Pw.pure rfl rfl rfl ?_) | refine Pw.inY rfl ?_ | refine Pw.list (Pw.off rfl rfl ?_) | refine Pw.condT rfl ?_ | refine Pw.condF rfl ?_ | refine Pw.list (Pw.box rfl rfl rfl rfl (fun _ => freeHead ?_)) | refine Pw.list (Pw.alloc rfl rfl rfl rfl rfl (fun _ => ?_)) | refine Pw.list (Pw.build rfl rfl rfl rfl ?_) | refine Pw.list (Pw.ld rfl inferInstance rfl rfl rfl ?_) | refine Pw.list (Pw.sto rfl rfl inferInstance rfl rfl rfl rfl rfl inferInstance rfl ?_))
    refine Pw.list (Pw.call (rbounded_ct (natL (val b * val d)) z2) rfl rfl rfl (by kernel_rfl) rfl rfl (fun w h => (hv w h)) ?_)
    intro z3 _
    repeat (first | (with_reducible first | refine Pw.seq ?_ | refine Pw.region ?_ | refine Pw.nil ?_ | refine Pw.then_ ?_ | refine Pw.skip ?_ | refine Pw.block ?_ | refine Pw.exit ?_ | refine Pw.inX ?_ | refine Pw.inN ?_ | refine Pw.inR ?_ | refine Pw.thenX ?_ | refine Pw.thenR ?_ | refine Pw.ret ?_) | refine Pw.list (Pw.pure rfl rfl rfl ?_) | refine Pw.inY rfl ?_ | refine Pw.list (Pw.off rfl rfl ?_) | refine Pw.condT rfl ?_ | refine Pw.condF rfl ?_ | refine Pw.list (Pw.box rfl rfl rfl rfl (fun _ => freeHead ?_)) | refine Pw.list (Pw.alloc rfl rfl rfl rfl rfl (fun _ => ?_)) | refine Pw.list (Pw.build rfl rfl rfl rfl ?_) | refine Pw.list (Pw.ld rfl inferInstance rfl rfl rfl ?_) | refine Pw.list (Pw.sto rfl rfl inferInstance rfl rfl rfl rfl rfl inferInstance rfl ?_))
    refine Pw.list (Pw.call (radd_ct [] [] z1.1 z1.2 fm_nil.1 fm_nil.1 (by simp) (by simp)) rfl rfl rfl (by kernel_rfl) rfl rfl (fun w h => ⟨(hv w h), (hv w h)⟩) ?_)
    intro z4 _
    repeat (first | (with_reducible first | refine Pw.seq ?_ | refine Pw.region ?_ | refine Pw.nil ?_ | refine Pw.then_ ?_ | refine Pw.skip ?_ | refine Pw.block ?_ | refine Pw.exit ?_ | refine Pw.inX ?_ | refine Pw.inN ?_ | refine Pw.inR ?_ | refine Pw.thenX ?_ | refine Pw.thenR ?_ | refine Pw.ret ?_) | refine Pw.list (Pw.pure rfl rfl rfl ?_) | refine Pw.inY rfl ?_ | refine Pw.list (Pw.off rfl rfl ?_) | refine Pw.condT rfl ?_ | refine Pw.condF rfl ?_ | refine Pw.list (Pw.box rfl rfl rfl rfl (fun _ => freeHead ?_)) | refine Pw.list (Pw.alloc rfl rfl rfl rfl rfl (fun _ => ?_)) | refine Pw.list (Pw.build rfl rfl rfl rfl ?_) | refine Pw.list (Pw.ld rfl inferInstance rfl rfl rfl ?_) | refine Pw.list (Pw.sto rfl rfl inferInstance rfl rfl rfl rfl rfl inferInstance rfl ?_))
    refine Pw.list (Pw.call (rbounded_ct (natL (val [] + val [])) z4) rfl rfl rfl (by kernel_rfl) rfl rfl (fun w h => (hv w h)) ?_)
    intro z5 _
    repeat (first | (with_reducible first | refine Pw.seq ?_ | refine Pw.region ?_ | refine Pw.nil ?_ | refine Pw.then_ ?_ | refine Pw.skip ?_ | refine Pw.block ?_ | refine Pw.exit ?_ | refine Pw.inX ?_ | refine Pw.inN ?_ | refine Pw.inR ?_ | refine Pw.thenX ?_ | refine Pw.thenR ?_ | refine Pw.ret ?_) | refine Pw.list (Pw.pure rfl rfl rfl ?_) | refine Pw.inY rfl ?_ | refine Pw.list (Pw.off rfl rfl ?_) | refine Pw.condT rfl ?_ | refine Pw.condF rfl ?_ | refine Pw.list (Pw.box rfl rfl rfl rfl (fun _ => freeHead ?_)) | refine Pw.list (Pw.alloc rfl rfl rfl rfl rfl (fun _ => ?_)) | refine Pw.list (Pw.build rfl rfl rfl rfl ?_) | refine Pw.list (Pw.ld rfl inferInstance rfl rfl rfl ?_) | refine Pw.list (Pw.sto rfl rfl inferInstance rfl rfl rfl rfl rfl inferInstance rfl ?_))
    exact Pw.ret_ (x := z0) (.cell rfl (fun w hs => hs.own _ (.head _)) rfl (.tmp rfl .nil)) rfl trivial (fun w h => R2.nil w)
end Go.Proofs.Wk
/- The law RatioSums walked. -/
namespace Go.Proofs.Wk
open Go.RowKit
set_option maxRecDepth 100000
set_option maxHeartbeats 4000000
attribute [local irreducible] Pw OpG
set_option linter.unusedVariables false
set_option linter.unusedSimpArgs false
theorem joinS_ok (S : List Int → List Int → List Int × Int) (hS : ∀ u v, Lm u → Lm v → Fm (S u v).1 ∧ (u.length ≤ 400 → v.length ≤ 400 → (S u v).1.length < 1048576)) (a b c d : List Int) : Fm (joinS S a b c d).1 ∧ Fm (joinS S a b c d).2.1 ∧ (joinS S a b c d).1.length < 1048576 ∧ (joinS S a b c d).2.1.length < 1048576 := by
  unfold joinS
  split
  · exact endS_ok _ _ _ _ (hS _ _ (@mulS_lm a d).1.1 (@mulS_lm c b).1.1).1.1 (@mulS_lm b d).1.1
  · exact ⟨fm_nil, fm_nil, by simp, by simp⟩
end Go.Proofs.Wk
/- Snapshots as data: what the walks of layer 10 say of them. -/
namespace Go.Proofs.Wk
open Go.RowKit
set_option linter.unusedVariables false
set_option linter.unusedSimpArgs false
structure Vtr where
  id : Int
  st : Int
  pk : List Int
  z : Option Addr × Nat
abbrev I1 (l : List Int) (x : Option Addr × Nat) : World → Prop := Ints .i64 l x.1 x.2
abbrev vtV (v : Vtr) : Value := .agg #[.int .i64 v.id, .int .u64 v.st, sl v.pk v.z]
def encV (v : Vtr) : List Value := [.int .i64 v.id, .int .u64 v.st, sl v.pk v.z]
def heldV (v : Vtr) : World → Prop := I1 v.pk v.z
abbrev VS (l : List Vtr) (x : Option Addr × Nat) : World → Prop := Rows (RR encV heldV) 3 l x.1 x.2
abbrev gL1 (s : Gr) (cells : List Value) (e : TypeId) : List Blk := gL s cells e ++ []
structure Sn where
  vs : List Vtr
  zv : Option Addr × Nat
  cs : List Int
  zc : Option Addr × Nat
abbrev snV (s : Sn) : Value := .agg #[.slice s.zv.1 s.vs.length s.zv.2, sl s.cs s.zc]
abbrev snF (s : Sn) (W : World) : Prop := VS s.vs s.zv W ∧ I1 s.cs s.zc W
def snW (s : Sn) : Prop := ∀ v ∈ s.vs, 0 ≤ v.st ∧ v.st ≤ 18446744073709551615
theorem sn2 {s : Sn} : ∀ w, All [snF s] w → All [VS s.vs s.zv, I1 s.cs s.zc] w := fun w h => allCons (fact0 h).1 (allCons (fact0 h).2 allNil)
theorem get_at {α : Type} {l : List α} {i : Nat} (h : i < l.length) : ∃ x, l[i]? = some x ∧ x ∈ l := ⟨l[i], List.getElem?_eq_getElem h, List.getElem_mem h⟩
theorem get_rd {l : List Int} {i : Nat} {x : Int} (h : l[i]? = some x) : rd l (i : Int) = x := by
  unfold rd; rw [List.getD_eq_getElem?_getD, Int.toNat_natCast, h]; rfl
/-! ### Rising lists -/
def okAt (l : List Int) (i : Nat) : Bool := decide (0 ≤ rd l i) && (decide (rd l i ≤ 2147483647) && (decide (i = 0) || decide (rd l ((i : Int) - 1) < rd l i)))
theorem okAt_iff {l : List Int} {i : Nat} : okAt l i = true ↔ 0 ≤ rd l i ∧ rd l i ≤ 2147483647 ∧ (i = 0 ∨ rd l ((i : Int) - 1) < rd l i) := by
  unfold okAt; simp [Bool.and_eq_true, Bool.or_eq_true, decide_eq_true_eq]
theorem okAt_no {l : List Int} {i : Nat} (h : ¬ (0 ≤ rd l i ∧ rd l i ≤ 2147483647 ∧ (i = 0 ∨ rd l ((i : Int) - 1) < rd l i))) : okAt l i = false := by
  rw [← Bool.not_eq_true, okAt_iff]; exact h
theorem top63 {n : Nat} (h : n ≤ maxLen) : n ≤ 9223372036854775807 := by simpa [maxLen] using h
theorem i64s {i n : Nat} (h : i < n) (hn : n ≤ 9223372036854775807) : wrap64 ((i : Int) + 1) = ((i + 1 : Nat) : Int) := by unfold wrap64; omega
def allB (n : Nat) (p : Nat → Bool) : Bool := (List.range n).all p
theorem allB_true {n : Nat} {p : Nat → Bool} (h : ∀ i, i < n → p i = true) : allB n p = true := by
  unfold allB; rw [List.all_eq_true]; intro x hx; exact h x (List.mem_range.1 hx)
theorem allB_false {n : Nat} {p : Nat → Bool} {i : Nat} (h : i < n) (hp : p i = false) : allB n p = false := by
  unfold allB; rw [List.all_eq_false]; exact ⟨i, List.mem_range.2 h, by simp [hp]⟩
def risB (l : List Int) : Bool := allB l.length (okAt l)
/-! ### Formed snapshots -/
def sumSt : List Vtr → Int
  | [] => 0
  | v :: r => v.st + sumSt r
theorem sumSt_snoc (l : List Vtr) (v : Vtr) : sumSt (l ++ [v]) = sumSt l + v.st := by
  induction l with
  | nil => simp [sumSt]
  | cons x r ih => simp only [List.cons_append, sumSt, ih]; omega
theorem take_snoc {α : Type} {l : List α} {i : Nat} {x : α} (h : l[i]? = some x) : l.take (i + 1) = l.take i ++ [x] := by
  rw [List.take_add_one, h]; rfl
theorem sumSt_nonneg {l : List Vtr} (h : ∀ v ∈ l, 0 ≤ v.st) : 0 ≤ sumSt l := by
  induction l with
  | nil => simp [sumSt]
  | cons x r ih =>
    have h1 := h x (List.mem_cons_self ..)
    have h2 := ih (fun v hv => h v (List.mem_cons_of_mem _ hv))
    simp only [sumSt]; omega
def idsOf (l : List Vtr) : List Int := l.map Vtr.id
def vOk (vs : List Vtr) (i : Nat) : Bool := match vs[i]? with
  | none => true
  | some v => decide (sumSt (vs.take i) + v.st ≤ 18446744073709551615) && (!decide (v.id ∈ idsOf (vs.take i)) && (decide (0 ≤ v.id) && (decide (v.id ≤ 2147483647) && (decide (v.pk.length ≤ 8) && risB v.pk))))
def formB (s : Sn) : Bool := decide (s.vs.length ≤ 32) && (decide (s.cs.length ≤ 32) && (risB s.cs && allB s.vs.length (vOk s.vs)))
end Go.Proofs.Wk
