/- Walks and their mathematics, merged. No conditions beyond those written. -/
import Derived.Test.YtmmefkianpbghaaWmBalanceAgain2
/- Walks of the reference: subtracting, multiplying. -/
namespace Go.Proofs.Wk
open Go.RowKit
set_option maxRecDepth 100000
attribute [local irreducible] Pw OpG
set_option linter.unusedVariables false
set_option linter.unusedSimpArgs false
theorem rsubF_ct (a b : List Int) (x y : Option Addr × Nat) (k : Nat) (r : List Int) (h : psephosref01_sub.f k a b = some r) (hl : a.length < 4194304) :
    Ct Try.prog 64 #[sl a x, sl b y] (fun W => S1 a x W ∧ S1 b y W) (fun z : Option Addr × Nat => sl r z) Tt (fun z => S1 r z) := by
  obtain ⟨A, c⟩ := x
  obtain ⟨B, d⟩ := y
  unfold psephosref01_sub.f at h
  rw [Option.bind_some, if_pos (by simp; omega), Option.bind_some, List.nil_append] at h
  refine Ct.start Try.func64 rfl rfl (slots_of rfl slots2) (fun D w0 => Pw.facts two2 ?_)
  repeat (first | (with_reducible first | refine Pw.seq ?_ | refine Pw.region ?_ | refine Pw.nil ?_ | refine Pw.then_ ?_ | refine Pw.skip ?_ | refine Pw.block ?_ | refine Pw.exit ?_ | refine Pw.inX ?_ | refine Pw.inN ?_ | refine Pw.inR ?_ | refine Pw.thenX ?_ | refine Pw.thenR ?_ | refine Pw.ret ?_) | refine Pw.list (Pw.pure rfl rfl rfl ?_) | refine Pw.inY rfl ?_ | refine Pw.list (Pw.off rfl rfl ?_) | refine Pw.condT rfl ?_ | refine Pw.condF rfl ?_)
  refine Pw.list (Pw.lit0 rfl rfl rfl rfl (fun g => ?_))
  repeat (first | (with_reducible first | refine Pw.seq ?_ | refine Pw.region ?_ | refine Pw.nil ?_ | refine Pw.then_ ?_ | refine Pw.skip ?_ | refine Pw.block ?_ | refine Pw.exit ?_ | refine Pw.inX ?_ | refine Pw.inN ?_ | refine Pw.inR ?_ | refine Pw.thenX ?_ | refine Pw.thenR ?_ | refine Pw.ret ?_) | refine Pw.list (Pw.pure rfl rfl rfl ?_) | refine Pw.inY rfl ?_ | refine Pw.list (Pw.off rfl rfl ?_) | refine Pw.condT rfl ?_ | refine Pw.condF rfl ?_)
  refine Pw.list (Pw.appendCopy (news := a.map (Value.int .u32)) rfl rfl rfl rfl rfl rfl (show (a.map (Value.int .u32)).length = a.length * 1 by simp) (fun w hs => (fact0 hs.all).cells) rfl (by simp only [maxLen]; omega) (show a.length * 4 ≤ _ by omega) (.head _) rfl rfl (fun g cap ex h1 h2 => ?_) (fun h0 => Pw.drop ?_))
  · refine Pw.perm (.swap ..) (Pw.drop ?_)
    repeat (first | (with_reducible first | refine Pw.seq ?_ | refine Pw.region ?_ | refine Pw.nil ?_ | refine Pw.then_ ?_ | refine Pw.skip ?_ | refine Pw.block ?_ | refine Pw.exit ?_ | refine Pw.inX ?_ | refine Pw.inN ?_ | refine Pw.inR ?_ | refine Pw.thenX ?_ | refine Pw.thenR ?_ | refine Pw.ret ?_) | refine Pw.list (Pw.pure rfl rfl rfl ?_) | refine Pw.inY rfl ?_ | refine Pw.list (Pw.off rfl rfl ?_) | refine Pw.condT rfl ?_ | refine Pw.condF rfl ?_)
    obtain ⟨m, hm⟩ : ∃ m, m = a.length := ⟨_, rfl⟩
    rw [← hm] at h h1 ⊢
    refine Pw.loopJ (σ := Nat × List Int × Int × Int) (fun s => psephosref01_sub.l0 s.1 b s.2.1 s.2.2.1 (m : Int) s.2.2.2 = some r ∧ s.2.1.length = m)
      (fun s => ⟨[(1, .slice B b.length d), (5, .slice (some ⟨g, 0, none⟩) m cap), (6, .int .u64 s.2.2.1), (13, .int .i64 m), (14, .int .i64 s.2.2.2)], [⟨g, row (s.2.1.map (Value.int .u32) ++ ex) 46⟩], [Ints .u32 b B d]⟩) (fun s => s.1) (k, a, 0, 0) ⟨h, hm.symm⟩ (Pw.enter ⟨rfl, rfl, rfl, rfl, rfl, trivial⟩ (fun _ h => allTail h)) ?_
    clear h
    rintro ⟨k, out, br, i⟩ ⟨h, hout⟩
    dsimp only at h hout ⊢
    obtain _ | k := k
    · cases h
    simp only [psephosref01_sub.l0] at h
    repeat (first | (with_reducible first | refine Pw.seq ?_ | refine Pw.region ?_ | refine Pw.nil ?_ | refine Pw.then_ ?_ | refine Pw.skip ?_ | refine Pw.block ?_ | refine Pw.exit ?_ | refine Pw.inX ?_ | refine Pw.inN ?_ | refine Pw.inR ?_ | refine Pw.thenX ?_ | refine Pw.thenR ?_ | refine Pw.ret ?_) | refine Pw.list (Pw.pure rfl rfl rfl ?_) | refine Pw.inY rfl ?_ | refine Pw.list (Pw.off rfl rfl ?_) | refine Pw.condT rfl ?_ | refine Pw.condF rfl ?_)
    refine Pw.condD rfl (fun c3 => ?_) (fun c3 => ?_)
    · rw [if_pos c3] at h
      repeat (first | (with_reducible first | refine Pw.seq ?_ | refine Pw.region ?_ | refine Pw.nil ?_ | refine Pw.then_ ?_ | refine Pw.skip ?_ | refine Pw.block ?_ | refine Pw.exit ?_ | refine Pw.inX ?_ | refine Pw.inN ?_ | refine Pw.inR ?_ | refine Pw.thenX ?_ | refine Pw.thenR ?_ | refine Pw.ret ?_) | refine Pw.list (Pw.pure rfl rfl rfl ?_) | refine Pw.inY rfl ?_ | refine Pw.list (Pw.off rfl rfl ?_) | refine Pw.condT rfl ?_ | refine Pw.condF rfl ?_)
      refine Pw.condD rfl (fun c6 => ?_) (fun c6 => ?_)
      · rw [if_pos c6] at h
        obtain ⟨c4, h⟩ := ite_none h
        obtain ⟨c5, h⟩ := ite_none h
        repeat (first | (with_reducible first | refine Pw.seq ?_ | refine Pw.region ?_ | refine Pw.nil ?_ | refine Pw.then_ ?_ | refine Pw.skip ?_ | refine Pw.block ?_ | refine Pw.exit ?_ | refine Pw.inX ?_ | refine Pw.inN ?_ | refine Pw.inR ?_ | refine Pw.thenX ?_ | refine Pw.thenR ?_ | refine Pw.ret ?_) | refine Pw.list (Pw.pure rfl rfl rfl ?_) | refine Pw.inY rfl ?_ | refine Pw.list (Pw.off rfl rfl ?_) | refine Pw.condT rfl ?_ | refine Pw.condF rfl ?_)
        refine Pw.list (Pw.index rfl rfl rfl rfl c4 c6 (fun w h => (fact0 h).has c4 c6) rfl rfl ?_)
        rintro bd rfl
        refine Pw.list (Pw.load1 rfl rfl (fun w hs => by first | exact (fact0 hs.all).cell (by first | assumption | omega) (by first | assumption | omega) | exact (fact1 hs.all).cell (by first | assumption | omega) (by first | assumption | omega) | exact (fact2 hs.all).cell (by first | assumption | omega) (by first | assumption | omega) | exact (fact3 hs.all).cell (by first | assumption | omega) (by first | assumption | omega)) rfl rfl ?_)
        repeat (first | (with_reducible first | refine Pw.seq ?_ | refine Pw.region ?_ | refine Pw.nil ?_ | refine Pw.then_ ?_ | refine Pw.skip ?_ | refine Pw.block ?_ | refine Pw.exit ?_ | refine Pw.inX ?_ | refine Pw.inN ?_ | refine Pw.inR ?_ | refine Pw.thenX ?_ | refine Pw.thenR ?_ | refine Pw.ret ?_) | refine Pw.list (Pw.pure rfl rfl rfl ?_) | refine Pw.inY rfl ?_ | refine Pw.list (Pw.off rfl rfl ?_) | refine Pw.condT rfl ?_ | refine Pw.condF rfl ?_)
        refine Pw.list (Pw.indexO rfl rfl rfl rfl c4 (by omega) rfl rfl ?_)
        refine Pw.list (Pw.loadX rfl rfl rfl (.head _) c4 c5 rfl rfl ?_)
        repeat (first | (with_reducible first | refine Pw.seq ?_ | refine Pw.region ?_ | refine Pw.nil ?_ | refine Pw.then_ ?_ | refine Pw.skip ?_ | refine Pw.block ?_ | refine Pw.exit ?_ | refine Pw.inX ?_ | refine Pw.inN ?_ | refine Pw.inR ?_ | refine Pw.thenX ?_ | refine Pw.thenR ?_ | refine Pw.ret ?_) | refine Pw.list (Pw.pure rfl rfl rfl ?_) | refine Pw.inY rfl ?_ | refine Pw.list (Pw.off rfl rfl ?_) | refine Pw.condT rfl ?_ | refine Pw.condF rfl ?_)
        refine Pw.condD rfl (fun c7 => ?_) (fun c7 => ?_)
        · rw [if_pos c7] at h
          repeat (first | (with_reducible first | refine Pw.seq ?_ | refine Pw.region ?_ | refine Pw.nil ?_ | refine Pw.then_ ?_ | refine Pw.skip ?_ | refine Pw.block ?_ | refine Pw.exit ?_ | refine Pw.inX ?_ | refine Pw.inN ?_ | refine Pw.inR ?_ | refine Pw.thenX ?_ | refine Pw.thenR ?_ | refine Pw.ret ?_) | refine Pw.list (Pw.pure rfl rfl rfl ?_) | refine Pw.inY rfl ?_ | refine Pw.list (Pw.off rfl rfl ?_) | refine Pw.condT rfl ?_ | refine Pw.condF rfl ?_)
          refine Pw.list (Pw.indexO rfl rfl rfl rfl c4 (by omega) rfl rfl ?_)
          refine Pw.list (Pw.loadX rfl rfl rfl (.head _) c4 c5 rfl rfl ?_)
          repeat (first | (with_reducible first | refine Pw.seq ?_ | refine Pw.region ?_ | refine Pw.nil ?_ | refine Pw.then_ ?_ | refine Pw.skip ?_ | refine Pw.block ?_ | refine Pw.exit ?_ | refine Pw.inX ?_ | refine Pw.inN ?_ | refine Pw.inR ?_ | refine Pw.thenX ?_ | refine Pw.thenR ?_ | refine Pw.ret ?_) | refine Pw.list (Pw.pure rfl rfl rfl ?_) | refine Pw.inY rfl ?_ | refine Pw.list (Pw.off rfl rfl ?_) | refine Pw.condT rfl ?_ | refine Pw.condF rfl ?_)
          refine Pw.list (Pw.indexO rfl rfl rfl rfl c4 (by omega) rfl rfl ?_)
          refine Pw.list (Pw.storeX rfl rfl rfl rfl rfl c4 c5 .head rfl ?_)
          repeat (first | (with_reducible first | refine Pw.seq ?_ | refine Pw.region ?_ | refine Pw.nil ?_ | refine Pw.then_ ?_ | refine Pw.skip ?_ | refine Pw.block ?_ | refine Pw.exit ?_ | refine Pw.inX ?_ | refine Pw.inN ?_ | refine Pw.inR ?_ | refine Pw.thenX ?_ | refine Pw.thenR ?_ | refine Pw.ret ?_) | refine Pw.list (Pw.pure rfl rfl rfl ?_) | refine Pw.inY rfl ?_ | refine Pw.list (Pw.off rfl rfl ?_) | refine Pw.condT rfl ?_ | refine Pw.condF rfl ?_)
          exact Pw.again (k, _, _, _) ⟨h, by rw [List.length_set]; exact hout⟩ (Nat.lt_succ_self _) ⟨rfl, rfl, rfl, rfl, rfl, trivial⟩ rfl (fun w h => h)
        · rw [if_neg c7] at h
          repeat (first | (with_reducible first | refine Pw.seq ?_ | refine Pw.region ?_ | refine Pw.nil ?_ | refine Pw.then_ ?_ | refine Pw.skip ?_ | refine Pw.block ?_ | refine Pw.exit ?_ | refine Pw.inX ?_ | refine Pw.inN ?_ | refine Pw.inR ?_ | refine Pw.thenX ?_ | refine Pw.thenR ?_ | refine Pw.ret ?_) | refine Pw.list (Pw.pure rfl rfl rfl ?_) | refine Pw.inY rfl ?_ | refine Pw.list (Pw.off rfl rfl ?_) | refine Pw.condT rfl ?_ | refine Pw.condF rfl ?_)
          refine Pw.list (Pw.indexO rfl rfl rfl rfl c4 (by omega) rfl rfl ?_)
          refine Pw.list (Pw.loadX rfl rfl rfl (.head _) c4 c5 rfl rfl ?_)
          repeat (first | (with_reducible first | refine Pw.seq ?_ | refine Pw.region ?_ | refine Pw.nil ?_ | refine Pw.then_ ?_ | refine Pw.skip ?_ | refine Pw.block ?_ | refine Pw.exit ?_ | refine Pw.inX ?_ | refine Pw.inN ?_ | refine Pw.inR ?_ | refine Pw.thenX ?_ | refine Pw.thenR ?_ | refine Pw.ret ?_) | refine Pw.list (Pw.pure rfl rfl rfl ?_) | refine Pw.inY rfl ?_ | refine Pw.list (Pw.off rfl rfl ?_) | refine Pw.condT rfl ?_ | refine Pw.condF rfl ?_)
          refine Pw.list (Pw.indexO rfl rfl rfl rfl c4 (by omega) rfl rfl ?_)
          refine Pw.list (Pw.storeX rfl rfl rfl rfl rfl c4 c5 .head rfl ?_)
          repeat (first | (with_reducible first | refine Pw.seq ?_ | refine Pw.region ?_ | refine Pw.nil ?_ | refine Pw.then_ ?_ | refine Pw.skip ?_ | refine Pw.block ?_ | refine Pw.exit ?_ | refine Pw.inX ?_ | refine Pw.inN ?_ | refine Pw.inR ?_ | refine Pw.thenX ?_ | refine Pw.thenR ?_ | refine Pw.ret ?_) | refine Pw.list (Pw.pure rfl rfl rfl ?_) | refine Pw.inY rfl ?_ | refine Pw.list (Pw.off rfl rfl ?_) | refine Pw.condT rfl ?_ | refine Pw.condF rfl ?_)
          exact Pw.again (k, _, _, _) ⟨h, by rw [List.length_set]; exact hout⟩ (Nat.lt_succ_self _) ⟨rfl, rfl, rfl, rfl, rfl, trivial⟩ rfl (fun w h => h)
      · rw [if_neg c6] at h
        obtain ⟨c4, h⟩ := ite_none h
        obtain ⟨c5, h⟩ := ite_none h
        repeat (first | (with_reducible first | refine Pw.seq ?_ | refine Pw.region ?_ | refine Pw.nil ?_ | refine Pw.then_ ?_ | refine Pw.skip ?_ | refine Pw.block ?_ | refine Pw.exit ?_ | refine Pw.inX ?_ | refine Pw.inN ?_ | refine Pw.inR ?_ | refine Pw.thenX ?_ | refine Pw.thenR ?_ | refine Pw.ret ?_) | refine Pw.list (Pw.pure rfl rfl rfl ?_) | refine Pw.inY rfl ?_ | refine Pw.list (Pw.off rfl rfl ?_) | refine Pw.condT rfl ?_ | refine Pw.condF rfl ?_)
        refine Pw.list (Pw.indexO rfl rfl rfl rfl c4 (by omega) rfl rfl ?_)
        refine Pw.list (Pw.loadX rfl rfl rfl (.head _) c4 c5 rfl rfl ?_)
        repeat (first | (with_reducible first | refine Pw.seq ?_ | refine Pw.region ?_ | refine Pw.nil ?_ | refine Pw.then_ ?_ | refine Pw.skip ?_ | refine Pw.block ?_ | refine Pw.exit ?_ | refine Pw.inX ?_ | refine Pw.inN ?_ | refine Pw.inR ?_ | refine Pw.thenX ?_ | refine Pw.thenR ?_ | refine Pw.ret ?_) | refine Pw.list (Pw.pure rfl rfl rfl ?_) | refine Pw.inY rfl ?_ | refine Pw.list (Pw.off rfl rfl ?_) | refine Pw.condT rfl ?_ | refine Pw.condF rfl ?_)
        refine Pw.condD rfl (fun c7 => ?_) (fun c7 => ?_)
        · rw [if_pos c7] at h
          repeat (first | (with_reducible first | refine Pw.seq ?_ | refine Pw.region ?_ | refine Pw.nil ?_ | refine Pw.then_ ?_ | refine Pw.skip ?_ | refine Pw.block ?_ | refine Pw.exit ?_ | refine Pw.inX ?_ | refine Pw.inN ?_ | refine Pw.inR ?_ | refine Pw.thenX ?_ | refine Pw.thenR ?_ | refine Pw.ret ?_) | refine Pw.list (Pw.pure rfl rfl rfl ?_) | refine Pw.inY rfl ?_ | refine Pw.list (Pw.off rfl rfl ?_) | refine Pw.condT rfl ?_ | refine Pw.condF rfl ?_)
          refine Pw.list (Pw.indexO rfl rfl rfl rfl c4 (by omega) rfl rfl ?_)
          refine Pw.list (Pw.loadX rfl rfl rfl (.head _) c4 c5 rfl rfl ?_)
          repeat (first | (with_reducible first | refine Pw.seq ?_ | refine Pw.region ?_ | refine Pw.nil ?_ | refine Pw.then_ ?_ | refine Pw.skip ?_ | refine Pw.block ?_ | refine Pw.exit ?_ | refine Pw.inX ?_ | refine Pw.inN ?_ | refine Pw.inR ?_ | refine Pw.thenX ?_ | refine Pw.thenR ?_ | refine Pw.ret ?_) | refine Pw.list (Pw.pure rfl rfl rfl ?_) | refine Pw.inY rfl ?_ | refine Pw.list (Pw.off rfl rfl ?_) | refine Pw.condT rfl ?_ | refine Pw.condF rfl ?_)
          refine Pw.list (Pw.indexO rfl rfl rfl rfl c4 (by omega) rfl rfl ?_)
          refine Pw.list (Pw.storeX rfl rfl rfl rfl rfl c4 c5 .head rfl ?_)
          repeat (first | (with_reducible first | refine Pw.seq ?_ | refine Pw.region ?_ | refine Pw.nil ?_ | refine Pw.then_ ?_ | refine Pw.skip ?_ | refine Pw.block ?_ | refine Pw.exit ?_ | refine Pw.inX ?_ | refine Pw.inN ?_ | refine Pw.inR ?_ | refine Pw.thenX ?_ | refine Pw.thenR ?_ | refine Pw.ret ?_) | refine Pw.list (Pw.pure rfl rfl rfl ?_) | refine Pw.inY rfl ?_ | refine Pw.list (Pw.off rfl rfl ?_) | refine Pw.condT rfl ?_ | refine Pw.condF rfl ?_)
          exact Pw.again (k, _, _, _) ⟨h, by rw [List.length_set]; exact hout⟩ (Nat.lt_succ_self _) ⟨rfl, rfl, rfl, rfl, rfl, trivial⟩ rfl (fun w h => h)
        · rw [if_neg c7] at h
          repeat (first | (with_reducible first | refine Pw.seq ?_ | refine Pw.region ?_ | refine Pw.nil ?_ | refine Pw.then_ ?_ | refine Pw.skip ?_ | refine Pw.block ?_ | refine Pw.exit ?_ | refine Pw.inX ?_ | refine Pw.inN ?_ | refine Pw.inR ?_ | refine Pw.thenX ?_ | refine Pw.thenR ?_ | refine Pw.ret ?_) | refine Pw.list (Pw.pure rfl rfl rfl ?_) | refine Pw.inY rfl ?_ | refine Pw.list (Pw.off rfl rfl ?_) | refine Pw.condT rfl ?_ | refine Pw.condF rfl ?_)
          refine Pw.list (Pw.indexO rfl rfl rfl rfl c4 (by omega) rfl rfl ?_)
          refine Pw.list (Pw.loadX rfl rfl rfl (.head _) c4 c5 rfl rfl ?_)
          repeat (first | (with_reducible first | refine Pw.seq ?_ | refine Pw.region ?_ | refine Pw.nil ?_ | refine Pw.then_ ?_ | refine Pw.skip ?_ | refine Pw.block ?_ | refine Pw.exit ?_ | refine Pw.inX ?_ | refine Pw.inN ?_ | refine Pw.inR ?_ | refine Pw.thenX ?_ | refine Pw.thenR ?_ | refine Pw.ret ?_) | refine Pw.list (Pw.pure rfl rfl rfl ?_) | refine Pw.inY rfl ?_ | refine Pw.list (Pw.off rfl rfl ?_) | refine Pw.condT rfl ?_ | refine Pw.condF rfl ?_)
          refine Pw.list (Pw.indexO rfl rfl rfl rfl c4 (by omega) rfl rfl ?_)
          refine Pw.list (Pw.storeX rfl rfl rfl rfl rfl c4 c5 .head rfl ?_)
          repeat (first | (with_reducible first | refine Pw.seq ?_ | refine Pw.region ?_ | refine Pw.nil ?_ | refine Pw.then_ ?_ | refine Pw.skip ?_ | refine Pw.block ?_ | refine Pw.exit ?_ | refine Pw.inX ?_ | refine Pw.inN ?_ | refine Pw.inR ?_ | refine Pw.thenX ?_ | refine Pw.thenR ?_ | refine Pw.ret ?_) | refine Pw.list (Pw.pure rfl rfl rfl ?_) | refine Pw.inY rfl ?_ | refine Pw.list (Pw.off rfl rfl ?_) | refine Pw.condT rfl ?_ | refine Pw.condF rfl ?_)
          exact Pw.again (k, _, _, _) ⟨h, by rw [List.length_set]; exact hout⟩ (Nat.lt_succ_self _) ⟨rfl, rfl, rfl, rfl, rfl, trivial⟩ rfl (fun w h => h)
    · rw [if_neg c3] at h
      obtain ⟨t, ht, h⟩ := Option.bind_eq_some_iff.1 h
      have e1 := rtrim_some (by omega) ht
      subst e1
      obtain rfl := Option.some.inj h
      refine freeHead ?_
      repeat (first | (with_reducible first | refine Pw.seq ?_ | refine Pw.region ?_ | refine Pw.nil ?_ | refine Pw.then_ ?_ | refine Pw.skip ?_ | refine Pw.block ?_ | refine Pw.exit ?_ | refine Pw.inX ?_ | refine Pw.inN ?_ | refine Pw.inR ?_ | refine Pw.thenX ?_ | refine Pw.thenR ?_ | refine Pw.ret ?_) | refine Pw.list (Pw.pure rfl rfl rfl ?_) | refine Pw.inY rfl ?_ | refine Pw.list (Pw.off rfl rfl ?_) | refine Pw.condT rfl ?_ | refine Pw.condF rfl ?_)
      refine Pw.re (d := 49) (v' := sl out (some ⟨g, 0, none⟩, cap)) rfl (congrArg (fun m => Value.slice (some ⟨g, 0, none⟩) m cap) hout.symm) ?_
      refine Pw.list (Pw.call (rtrim_ct out (some ⟨g, 0, none⟩, cap) (by omega)) rfl rfl rfl (by kernel_rfl) rfl rfl (fun w h => ints_of_row (fact0 h) (by omega) (by simp only [maxLen]; omega)) ?_)
      intro z1 _
      repeat (first | (with_reducible first | refine Pw.seq ?_ | refine Pw.region ?_ | refine Pw.nil ?_ | refine Pw.then_ ?_ | refine Pw.skip ?_ | refine Pw.block ?_ | refine Pw.exit ?_ | refine Pw.inX ?_ | refine Pw.inN ?_ | refine Pw.inR ?_ | refine Pw.thenX ?_ | refine Pw.thenR ?_ | refine Pw.ret ?_) | refine Pw.list (Pw.pure rfl rfl rfl ?_) | refine Pw.inY rfl ?_ | refine Pw.list (Pw.off rfl rfl ?_) | refine Pw.condT rfl ?_ | refine Pw.condF rfl ?_)
      exact Pw.ret_ (x := z1) (.tmp rfl .nil) rfl trivial (fun w h => fact0 h)
  · obtain rfl := List.eq_nil_of_length_eq_zero h0
    obtain _ | k := k
    · cases h
    simp only [psephosref01_sub.l0] at h
    rw [if_neg (by simp)] at h
    obtain ⟨t, ht, h⟩ := Option.bind_eq_some_iff.1 h
    have e1 := rtrim_some (by simp) ht
    subst e1
    obtain rfl := Option.some.inj h
    repeat (first | (with_reducible first | refine Pw.seq ?_ | refine Pw.region ?_ | refine Pw.nil ?_ | refine Pw.then_ ?_ | refine Pw.skip ?_ | refine Pw.block ?_ | refine Pw.exit ?_ | refine Pw.inX ?_ | refine Pw.inN ?_ | refine Pw.inR ?_ | refine Pw.thenX ?_ | refine Pw.thenR ?_ | refine Pw.ret ?_) | refine Pw.list (Pw.pure rfl rfl rfl ?_) | refine Pw.inY rfl ?_ | refine Pw.list (Pw.off rfl rfl ?_) | refine Pw.condT rfl ?_ | refine Pw.condF rfl ?_)
    refine Pw.rounds 1 ?_
    refine Pw.round ?_
    repeat (first | (with_reducible first | refine Pw.seq ?_ | refine Pw.region ?_ | refine Pw.nil ?_ | refine Pw.then_ ?_ | refine Pw.skip ?_ | refine Pw.block ?_ | refine Pw.exit ?_ | refine Pw.inX ?_ | refine Pw.inN ?_ | refine Pw.inR ?_ | refine Pw.thenX ?_ | refine Pw.thenR ?_ | refine Pw.ret ?_) | refine Pw.list (Pw.pure rfl rfl rfl ?_) | refine Pw.inY rfl ?_ | refine Pw.list (Pw.off rfl rfl ?_) | refine Pw.condT rfl ?_ | refine Pw.condF rfl ?_)
    refine Pw.list (Pw.call (rtrim_ct [] (some ⟨g, 0, none⟩, 0) (by simp)) rfl rfl rfl (by kernel_rfl) rfl rfl (fun w h => Rows.nil _ _ _ _ _) ?_)
    intro z1 _
    repeat (first | (with_reducible first | refine Pw.seq ?_ | refine Pw.region ?_ | refine Pw.nil ?_ | refine Pw.then_ ?_ | refine Pw.skip ?_ | refine Pw.block ?_ | refine Pw.exit ?_ | refine Pw.inX ?_ | refine Pw.inN ?_ | refine Pw.inR ?_ | refine Pw.thenX ?_ | refine Pw.thenR ?_ | refine Pw.ret ?_) | refine Pw.list (Pw.pure rfl rfl rfl ?_) | refine Pw.inY rfl ?_ | refine Pw.list (Pw.off rfl rfl ?_) | refine Pw.condT rfl ?_ | refine Pw.condF rfl ?_)
    exact Pw.ret_ (x := z1) (.tmp rfl .nil) rfl trivial (fun w h => fact0 h)
end Go.Proofs.Wk
/- Walks of the reference: bits, shifting, halving. -/
namespace Go.Proofs.Wk
open Go.RowKit
set_option maxRecDepth 100000
attribute [local irreducible] Pw OpG
set_option linter.unusedVariables false
set_option linter.unusedSimpArgs false
theorem rbits_ct (a : List Int) (x : Option Addr × Nat) (k : Nat) (r : Int) (h : psephosref01_bits.f k a = some r) (hl : a.length < 4194304) :
    Ct Try.prog 62 #[sl a x] (S1 a x) (fun _ : Unit => .int .i64 r) Tt (fun _ _ => True) := by
  obtain ⟨A, c⟩ := x
  unfold psephosref01_bits.f at h
  refine Ct.start Try.func62 rfl rfl (slots_of rfl slots1) (fun D w0 => ?_)
  repeat (first | (with_reducible first | refine Pw.seq ?_ | refine Pw.region ?_ | refine Pw.nil ?_ | refine Pw.then_ ?_ | refine Pw.skip ?_ | refine Pw.block ?_ | refine Pw.exit ?_ | refine Pw.inX ?_ | refine Pw.inN ?_ | refine Pw.inR ?_ | refine Pw.thenX ?_ | refine Pw.thenR ?_ | refine Pw.ret ?_) | refine Pw.list (Pw.pure rfl rfl rfl ?_) | refine Pw.inY rfl ?_ | refine Pw.list (Pw.off rfl rfl ?_) | refine Pw.condT rfl ?_ | refine Pw.condF rfl ?_)
  refine Pw.loopJ (σ := Nat × Int) (fun s => psephosref01_bits.l0 s.1 a s.2 = some r) (fun s => ⟨[(0, .slice A a.length c), (3, .int .i64 s.2)], [], [Ints .u32 a A c]⟩) (fun s => s.1) (_, _) h (Pw.enter ⟨rfl, rfl, trivial⟩ (fun _ h => h)) ?_
  clear h
  rintro ⟨k, n⟩ h
  dsimp only at h ⊢
  obtain _ | k := k
  · cases h
  simp only [psephosref01_bits.l0] at h
  repeat (first | (with_reducible first | refine Pw.seq ?_ | refine Pw.region ?_ | refine Pw.nil ?_ | refine Pw.then_ ?_ | refine Pw.skip ?_ | refine Pw.block ?_ | refine Pw.exit ?_ | refine Pw.inX ?_ | refine Pw.inN ?_ | refine Pw.inR ?_ | refine Pw.thenX ?_ | refine Pw.thenR ?_ | refine Pw.ret ?_) | refine Pw.list (Pw.pure rfl rfl rfl ?_) | refine Pw.inY rfl ?_ | refine Pw.list (Pw.off rfl rfl ?_) | refine Pw.condT rfl ?_ | refine Pw.condF rfl ?_)
  refine Pw.split 9 rfl (fun c1 => ?_) (fun c1 => ?_)
  · rw [if_pos c1] at h
    obtain ⟨c2, h⟩ := ite_none h
    obtain ⟨c3, h⟩ := ite_none h
    obtain ⟨c4, h⟩ := ite_none h
    repeat (first | (with_reducible first | refine Pw.seq ?_ | refine Pw.region ?_ | refine Pw.nil ?_ | refine Pw.then_ ?_ | refine Pw.skip ?_ | refine Pw.block ?_ | refine Pw.exit ?_ | refine Pw.inX ?_ | refine Pw.inN ?_ | refine Pw.inR ?_ | refine Pw.thenX ?_ | refine Pw.thenR ?_ | refine Pw.ret ?_) | refine Pw.list (Pw.pure rfl rfl rfl ?_) | refine Pw.inY rfl ?_ | refine Pw.list (Pw.off rfl rfl ?_) | refine Pw.condT rfl ?_ | refine Pw.condF rfl ?_)
    refine Pw.list (Pw.index rfl rfl rfl rfl c2 c3 (fun w h => (fact0 h).has c2 c3) rfl rfl ?_)
    rintro ad rfl
    refine Pw.list (Pw.load1 rfl rfl (fun w hs => by first | exact (fact0 hs.all).cell (by first | assumption | omega) (by first | assumption | omega) | exact (fact1 hs.all).cell (by first | assumption | omega) (by first | assumption | omega) | exact (fact2 hs.all).cell (by first | assumption | omega) (by first | assumption | omega) | exact (fact3 hs.all).cell (by first | assumption | omega) (by first | assumption | omega)) rfl rfl ?_)
    repeat (first | (with_reducible first | refine Pw.seq ?_ | refine Pw.region ?_ | refine Pw.nil ?_ | refine Pw.then_ ?_ | refine Pw.skip ?_ | refine Pw.block ?_ | refine Pw.exit ?_ | refine Pw.inX ?_ | refine Pw.inN ?_ | refine Pw.inR ?_ | refine Pw.thenX ?_ | refine Pw.thenR ?_ | refine Pw.ret ?_) | refine Pw.list (Pw.pure rfl rfl rfl ?_) | refine Pw.inY rfl ?_ | refine Pw.list (Pw.off rfl rfl ?_) | refine Pw.condT rfl ?_ | refine Pw.condF rfl ?_)
    refine Pw.list (Pw.shr rfl rfl rfl c4 rfl rfl ?_)
    repeat (first | (with_reducible first | refine Pw.seq ?_ | refine Pw.region ?_ | refine Pw.nil ?_ | refine Pw.then_ ?_ | refine Pw.skip ?_ | refine Pw.block ?_ | refine Pw.exit ?_ | refine Pw.inX ?_ | refine Pw.inN ?_ | refine Pw.inR ?_ | refine Pw.thenX ?_ | refine Pw.thenR ?_ | refine Pw.ret ?_) | refine Pw.list (Pw.pure rfl rfl rfl ?_) | refine Pw.inY rfl ?_ | refine Pw.list (Pw.off rfl rfl ?_) | refine Pw.condT rfl ?_ | refine Pw.condF rfl ?_)
    refine Pw.condD rfl (fun c5 => ?_) (fun c5 => ?_)
    · rw [if_pos c5] at h
      repeat (first | (with_reducible first | refine Pw.seq ?_ | refine Pw.region ?_ | refine Pw.nil ?_ | refine Pw.then_ ?_ | refine Pw.skip ?_ | refine Pw.block ?_ | refine Pw.exit ?_ | refine Pw.inX ?_ | refine Pw.inN ?_ | refine Pw.inR ?_ | refine Pw.thenX ?_ | refine Pw.thenR ?_ | refine Pw.ret ?_) | refine Pw.list (Pw.pure rfl rfl rfl ?_) | refine Pw.inY rfl ?_ | refine Pw.list (Pw.off rfl rfl ?_) | refine Pw.condT rfl ?_ | refine Pw.condF rfl ?_)
      exact Pw.again (k, _) h (Nat.lt_succ_self _) ⟨rfl, rfl, trivial⟩ rfl (fun w h => h)
    · rw [if_neg c5] at h
      obtain rfl := Option.some.inj h
      repeat (first | (with_reducible first | refine Pw.seq ?_ | refine Pw.region ?_ | refine Pw.nil ?_ | refine Pw.then_ ?_ | refine Pw.skip ?_ | refine Pw.block ?_ | refine Pw.exit ?_ | refine Pw.inX ?_ | refine Pw.inN ?_ | refine Pw.inR ?_ | refine Pw.thenX ?_ | refine Pw.thenR ?_ | refine Pw.ret ?_) | refine Pw.list (Pw.pure rfl rfl rfl ?_) | refine Pw.inY rfl ?_ | refine Pw.list (Pw.off rfl rfl ?_) | refine Pw.condT rfl ?_ | refine Pw.condF rfl ?_)
      exact Pw.ret_ (x := ()) (.tmp rfl .nil) rfl trivial (fun w h => by trivial)
  · rw [if_neg c1] at h
    obtain rfl := Option.some.inj h
    repeat (first | (with_reducible first | refine Pw.seq ?_ | refine Pw.region ?_ | refine Pw.nil ?_ | refine Pw.then_ ?_ | refine Pw.skip ?_ | refine Pw.block ?_ | refine Pw.exit ?_ | refine Pw.inX ?_ | refine Pw.inN ?_ | refine Pw.inR ?_ | refine Pw.thenX ?_ | refine Pw.thenR ?_ | refine Pw.ret ?_) | refine Pw.list (Pw.pure rfl rfl rfl ?_) | refine Pw.inY rfl ?_ | refine Pw.list (Pw.off rfl rfl ?_) | refine Pw.condT rfl ?_ | refine Pw.condF rfl ?_)
    exact Pw.ret_ (x := ()) (.tmp rfl .nil) rfl trivial (fun w h => by trivial)
theorem rshifted_ct (a : List Int) (x : Option Addr × Nat) (s : Int) (k : Nat) (r : List Int) (h : psephosref01_shifted.f k a s = some r) (hs : 0 ≤ s) (hs1 : s < 134217728) (hl : a.length < 1048576) :
    Ct Try.prog 63 #[sl a x, .int .i64 s] (S1 a x) (fun z => sl r z) Tt (fun z => S1 r z) := by
  obtain ⟨A, c⟩ := x
  unfold psephosref01_shifted.f at h
  obtain ⟨c1, h⟩ := ite_none h
  obtain ⟨c2, h⟩ := ite_none h
  have e0 : Int.tdiv s 32 = s / 32 := Int.tdiv_eq_ediv_of_nonneg hs
  obtain ⟨m, hm⟩ : ∃ m, m = a.length + (s / 32).toNat + 1 := ⟨_, rfl⟩
  have e1 : wrap64 (wrap64 ((a.length : Int) + wrap64 (Int.tdiv s 32)) + 1) = (m : Int) := by rw [e0, wi64 (n := s / 32) (by omega) (by omega), wi64 (n := (a.length : Int) + s / 32) (by omega) (by omega), wi64 (by omega) (by omega)]; omega
  rw [e1, Int.toNat_natCast] at h
  refine Ct.start Try.func63 rfl rfl (slots_of rfl slots2) (fun D w0 => ?_)
  repeat (first | (with_reducible first | refine Pw.seq ?_ | refine Pw.region ?_ | refine Pw.nil ?_ | refine Pw.then_ ?_ | refine Pw.skip ?_ | refine Pw.block ?_ | refine Pw.exit ?_ | refine Pw.inX ?_ | refine Pw.inN ?_ | refine Pw.inR ?_ | refine Pw.thenX ?_ | refine Pw.thenR ?_ | refine Pw.ret ?_) | refine Pw.list (Pw.pure rfl rfl rfl ?_) | refine Pw.inY rfl ?_ | refine Pw.list (Pw.off rfl rfl ?_) | refine Pw.condT rfl ?_ | refine Pw.condF rfl ?_)
  refine Pw.re (d := 13) (v' := .int .i64 (m : Int)) rfl (by rw [e1]) ?_
  refine Pw.list (Pw.make rfl rfl rfl rfl rfl rfl (show 4 * m ≤ _ by omega) (by simp only [maxLen]; omega) rfl rfl (fun g => ?_))
  rw [zeros_map]
  repeat (first | (with_reducible first | refine Pw.seq ?_ | refine Pw.region ?_ | refine Pw.nil ?_ | refine Pw.then_ ?_ | refine Pw.skip ?_ | refine Pw.block ?_ | refine Pw.exit ?_ | refine Pw.inX ?_ | refine Pw.inN ?_ | refine Pw.inR ?_ | refine Pw.thenX ?_ | refine Pw.thenR ?_ | refine Pw.ret ?_) | refine Pw.list (Pw.pure rfl rfl rfl ?_) | refine Pw.inY rfl ?_ | refine Pw.list (Pw.off rfl rfl ?_) | refine Pw.condT rfl ?_ | refine Pw.condF rfl ?_)
  refine Pw.loopJ (σ := Nat × List Int × Int) (fun t => psephosref01_shifted.l0 t.1 a s t.2.1 (a.length : Int) t.2.2 = some r ∧ t.2.1.length = m)
    (fun t => ⟨[(0, .slice A a.length c), (1, .int .i64 s), (5, .slice (some ⟨g, 0, none⟩) m m), (16, .int .i64 a.length), (17, .int .i64 t.2.2)], [⟨g, row (t.2.1.map (Value.int .u32)) 46⟩], [Ints .u32 a A c]⟩) (fun s => s.1) (k, _, 0) ⟨h, by simp⟩ (Pw.enter ⟨rfl, rfl, rfl, rfl, rfl, trivial⟩ (fun _ h => h)) ?_
  clear h
  rintro ⟨k, out, i⟩ ⟨h, hout⟩
  dsimp only at h hout ⊢
  obtain _ | k := k
  · cases h
  simp only [psephosref01_shifted.l0] at h
  repeat (first | (with_reducible first | refine Pw.seq ?_ | refine Pw.region ?_ | refine Pw.nil ?_ | refine Pw.then_ ?_ | refine Pw.skip ?_ | refine Pw.block ?_ | refine Pw.exit ?_ | refine Pw.inX ?_ | refine Pw.inN ?_ | refine Pw.inR ?_ | refine Pw.thenX ?_ | refine Pw.thenR ?_ | refine Pw.ret ?_) | refine Pw.list (Pw.pure rfl rfl rfl ?_) | refine Pw.inY rfl ?_ | refine Pw.list (Pw.off rfl rfl ?_) | refine Pw.condT rfl ?_ | refine Pw.condF rfl ?_)
  refine Pw.condD rfl (fun c3 => ?_) (fun c3 => ?_)
  · rw [if_pos c3] at h
    obtain ⟨c4, h⟩ := ite_none h
    obtain ⟨c5, h⟩ := ite_none h
    obtain ⟨c6, h⟩ := ite_none h
    obtain ⟨c7, h⟩ := ite_none h
    obtain ⟨c8, h⟩ := ite_none h
    obtain ⟨c9, h⟩ := ite_none h
    obtain ⟨c10, h⟩ := ite_none h
    repeat (first | (with_reducible first | refine Pw.seq ?_ | refine Pw.region ?_ | refine Pw.nil ?_ | refine Pw.then_ ?_ | refine Pw.skip ?_ | refine Pw.block ?_ | refine Pw.exit ?_ | refine Pw.inX ?_ | refine Pw.inN ?_ | refine Pw.inR ?_ | refine Pw.thenX ?_ | refine Pw.thenR ?_ | refine Pw.ret ?_) | refine Pw.list (Pw.pure rfl rfl rfl ?_) | refine Pw.inY rfl ?_ | refine Pw.list (Pw.off rfl rfl ?_) | refine Pw.condT rfl ?_ | refine Pw.condF rfl ?_)
    refine Pw.list (Pw.index rfl rfl rfl rfl c4 c5 (fun w h => (fact0 h).has c4 c5) rfl rfl ?_)
    rintro ad rfl
    refine Pw.list (Pw.load1 rfl rfl (fun w hs => by first | exact (fact0 hs.all).cell (by first | assumption | omega) (by first | assumption | omega) | exact (fact1 hs.all).cell (by first | assumption | omega) (by first | assumption | omega) | exact (fact2 hs.all).cell (by first | assumption | omega) (by first | assumption | omega) | exact (fact3 hs.all).cell (by first | assumption | omega) (by first | assumption | omega)) rfl rfl ?_)
    repeat (first | (with_reducible first | refine Pw.seq ?_ | refine Pw.region ?_ | refine Pw.nil ?_ | refine Pw.then_ ?_ | refine Pw.skip ?_ | refine Pw.block ?_ | refine Pw.exit ?_ | refine Pw.inX ?_ | refine Pw.inN ?_ | refine Pw.inR ?_ | refine Pw.thenX ?_ | refine Pw.thenR ?_ | refine Pw.ret ?_) | refine Pw.list (Pw.pure rfl rfl rfl ?_) | refine Pw.inY rfl ?_ | refine Pw.list (Pw.off rfl rfl ?_) | refine Pw.condT rfl ?_ | refine Pw.condF rfl ?_)
    refine Pw.list (Pw.shl rfl rfl rfl c6 rfl rfl ?_)
    repeat (first | (with_reducible first | refine Pw.seq ?_ | refine Pw.region ?_ | refine Pw.nil ?_ | refine Pw.then_ ?_ | refine Pw.skip ?_ | refine Pw.block ?_ | refine Pw.exit ?_ | refine Pw.inX ?_ | refine Pw.inN ?_ | refine Pw.inR ?_ | refine Pw.thenX ?_ | refine Pw.thenR ?_ | refine Pw.ret ?_) | refine Pw.list (Pw.pure rfl rfl rfl ?_) | refine Pw.inY rfl ?_ | refine Pw.list (Pw.off rfl rfl ?_) | refine Pw.condT rfl ?_ | refine Pw.condF rfl ?_)
    refine Pw.list (Pw.indexO rfl rfl rfl rfl c7 (by omega) rfl rfl ?_)
    refine Pw.list (Pw.loadI rfl rfl rfl (.head _) c7 c8 rfl rfl ?_)
    repeat (first | (with_reducible first | refine Pw.seq ?_ | refine Pw.region ?_ | refine Pw.nil ?_ | refine Pw.then_ ?_ | refine Pw.skip ?_ | refine Pw.block ?_ | refine Pw.exit ?_ | refine Pw.inX ?_ | refine Pw.inN ?_ | refine Pw.inR ?_ | refine Pw.thenX ?_ | refine Pw.thenR ?_ | refine Pw.ret ?_) | refine Pw.list (Pw.pure rfl rfl rfl ?_) | refine Pw.inY rfl ?_ | refine Pw.list (Pw.off rfl rfl ?_) | refine Pw.condT rfl ?_ | refine Pw.condF rfl ?_)
    refine Pw.list (Pw.indexO rfl rfl rfl rfl c7 (by omega) rfl rfl ?_)
    refine Pw.list (Pw.storeI rfl rfl rfl rfl rfl c7 c8 .head rfl ?_)
    repeat (first | (with_reducible first | refine Pw.seq ?_ | refine Pw.region ?_ | refine Pw.nil ?_ | refine Pw.then_ ?_ | refine Pw.skip ?_ | refine Pw.block ?_ | refine Pw.exit ?_ | refine Pw.inX ?_ | refine Pw.inN ?_ | refine Pw.inR ?_ | refine Pw.thenX ?_ | refine Pw.thenR ?_ | refine Pw.ret ?_) | refine Pw.list (Pw.pure rfl rfl rfl ?_) | refine Pw.inY rfl ?_ | refine Pw.list (Pw.off rfl rfl ?_) | refine Pw.condT rfl ?_ | refine Pw.condF rfl ?_)
    refine Pw.list (Pw.indexO rfl rfl rfl rfl c9 (by omega) rfl rfl ?_)
    refine Pw.list (Pw.storeI rfl rfl rfl rfl rfl c9 (by rw [List.length_set]; exact c10) .head rfl ?_)
    repeat (first | (with_reducible first | refine Pw.seq ?_ | refine Pw.region ?_ | refine Pw.nil ?_ | refine Pw.then_ ?_ | refine Pw.skip ?_ | refine Pw.block ?_ | refine Pw.exit ?_ | refine Pw.inX ?_ | refine Pw.inN ?_ | refine Pw.inR ?_ | refine Pw.thenX ?_ | refine Pw.thenR ?_ | refine Pw.ret ?_) | refine Pw.list (Pw.pure rfl rfl rfl ?_) | refine Pw.inY rfl ?_ | refine Pw.list (Pw.off rfl rfl ?_) | refine Pw.condT rfl ?_ | refine Pw.condF rfl ?_)
    exact Pw.again (k, _, _) ⟨h, by rw [List.length_set, List.length_set]; exact hout⟩ (Nat.lt_succ_self _) ⟨rfl, rfl, rfl, rfl, rfl, trivial⟩ rfl (fun w h => h)
  · rw [if_neg c3] at h
    obtain ⟨t, ht, h⟩ := Option.bind_eq_some_iff.1 h
    have e2 := rtrim_some (by omega) ht
    subst e2
    obtain rfl := Option.some.inj h
    subst hout
    refine freeHead ?_
    repeat (first | (with_reducible first | refine Pw.seq ?_ | refine Pw.region ?_ | refine Pw.nil ?_ | refine Pw.then_ ?_ | refine Pw.skip ?_ | refine Pw.block ?_ | refine Pw.exit ?_ | refine Pw.inX ?_ | refine Pw.inN ?_ | refine Pw.inR ?_ | refine Pw.thenX ?_ | refine Pw.thenR ?_ | refine Pw.ret ?_) | refine Pw.list (Pw.pure rfl rfl rfl ?_) | refine Pw.inY rfl ?_ | refine Pw.list (Pw.off rfl rfl ?_) | refine Pw.condT rfl ?_ | refine Pw.condF rfl ?_)
    refine Pw.list (Pw.call (rtrim_ct out (some ⟨g, 0, none⟩, out.length) (by omega)) rfl rfl rfl (by kernel_rfl) rfl rfl (fun w h => ints_of_row' (fact0 h) (Nat.le_refl _) (by simp only [maxLen]; omega)) ?_)
    intro z _
    repeat (first | (with_reducible first | refine Pw.seq ?_ | refine Pw.region ?_ | refine Pw.nil ?_ | refine Pw.then_ ?_ | refine Pw.skip ?_ | refine Pw.block ?_ | refine Pw.exit ?_ | refine Pw.inX ?_ | refine Pw.inN ?_ | refine Pw.inR ?_ | refine Pw.thenX ?_ | refine Pw.thenR ?_ | refine Pw.ret ?_) | refine Pw.list (Pw.pure rfl rfl rfl ?_) | refine Pw.inY rfl ?_ | refine Pw.list (Pw.off rfl rfl ?_) | refine Pw.condT rfl ?_ | refine Pw.condF rfl ?_)
    exact Pw.ret_ (x := z) (.tmp rfl .nil) rfl trivial (fun w h => fact0 h)
end Go.Proofs.Wk
/- Walks of the reference: halving, dividing, the greatest common divisor. -/
namespace Go.Proofs.Wk
open Go.RowKit
set_option maxRecDepth 100000
attribute [local irreducible] Pw OpG
set_option linter.unusedVariables false
set_option linter.unusedSimpArgs false
theorem rhalf_ct (a : List Int) (x : Option Addr × Nat) (k : Nat) (r : List Int) (h : psephosref01_half.f k a = some r) (hl : a.length < 4194304) :
    Ct Try.prog 65 #[sl a x] (S1 a x) (fun z : Option Addr × Nat => sl r z) Tt (fun z => S1 r z) := by
  obtain ⟨A, c⟩ := x
  unfold psephosref01_half.f at h
  rw [Option.bind_some, if_pos (by simp; omega), Option.bind_some, List.nil_append] at h
  refine Ct.start Try.func65 rfl rfl (slots_of rfl slots1) (fun D w0 => ?_)
  repeat (first | (with_reducible first | refine Pw.seq ?_ | refine Pw.region ?_ | refine Pw.nil ?_ | refine Pw.then_ ?_ | refine Pw.skip ?_ | refine Pw.block ?_ | refine Pw.exit ?_ | refine Pw.inX ?_ | refine Pw.inN ?_ | refine Pw.inR ?_ | refine Pw.thenX ?_ | refine Pw.thenR ?_ | refine Pw.ret ?_) | refine Pw.list (Pw.pure rfl rfl rfl ?_) | refine Pw.inY rfl ?_ | refine Pw.list (Pw.off rfl rfl ?_) | refine Pw.condT rfl ?_ | refine Pw.condF rfl ?_)
  refine Pw.list (Pw.lit0 rfl rfl rfl rfl (fun g => ?_))
  repeat (first | (with_reducible first | refine Pw.seq ?_ | refine Pw.region ?_ | refine Pw.nil ?_ | refine Pw.then_ ?_ | refine Pw.skip ?_ | refine Pw.block ?_ | refine Pw.exit ?_ | refine Pw.inX ?_ | refine Pw.inN ?_ | refine Pw.inR ?_ | refine Pw.thenX ?_ | refine Pw.thenR ?_ | refine Pw.ret ?_) | refine Pw.list (Pw.pure rfl rfl rfl ?_) | refine Pw.inY rfl ?_ | refine Pw.list (Pw.off rfl rfl ?_) | refine Pw.condT rfl ?_ | refine Pw.condF rfl ?_)
  refine Pw.list (Pw.appendCopy (news := a.map (Value.int .u32)) rfl rfl rfl rfl rfl rfl (show (a.map (Value.int .u32)).length = a.length * 1 by simp) (fun w hs => (fact0 hs.all).cells) rfl (by simp only [maxLen]; omega) (show a.length * 4 ≤ _ by omega) (.head _) rfl rfl (fun g cap ex h1 h2 => ?_) (fun h0 => Pw.drop ?_))
  · refine Pw.perm (.swap ..) (Pw.drop ?_)
    repeat (first | (with_reducible first | refine Pw.seq ?_ | refine Pw.region ?_ | refine Pw.nil ?_ | refine Pw.then_ ?_ | refine Pw.skip ?_ | refine Pw.block ?_ | refine Pw.exit ?_ | refine Pw.inX ?_ | refine Pw.inN ?_ | refine Pw.inR ?_ | refine Pw.thenX ?_ | refine Pw.thenR ?_ | refine Pw.ret ?_) | refine Pw.list (Pw.pure rfl rfl rfl ?_) | refine Pw.inY rfl ?_ | refine Pw.list (Pw.off rfl rfl ?_) | refine Pw.condT rfl ?_ | refine Pw.condF rfl ?_)
    obtain ⟨m, hm⟩ : ∃ m, m = a.length := ⟨_, rfl⟩
    refine Pw.loopJ (σ := Nat × List Int × Int) (fun s => psephosref01_half.l0 s.1 a s.2.1 (m : Int) s.2.2 = some r ∧ s.2.1.length = m)
      (fun s => ⟨[(0, .slice A a.length c), (3, .slice (some ⟨g, 0, none⟩) m cap), (9, .int .i64 m), (10, .int .i64 s.2.2)], [⟨g, row (s.2.1.map (Value.int .u32) ++ ex) 46⟩], [Ints .u32 a A c]⟩) (fun s => s.1) (k, a, 0) ⟨by rw [hm]; exact h, hm.symm⟩ (by rw [hm]; exact Pw.enter ⟨rfl, rfl, rfl, rfl, trivial⟩ (fun _ h => h)) ?_
    clear h
    rintro ⟨k, out, i⟩ ⟨h, hout⟩
    dsimp only at h hout ⊢
    obtain _ | k := k
    · cases h
    simp only [psephosref01_half.l0] at h
    repeat (first | (with_reducible first | refine Pw.seq ?_ | refine Pw.region ?_ | refine Pw.nil ?_ | refine Pw.then_ ?_ | refine Pw.skip ?_ | refine Pw.block ?_ | refine Pw.exit ?_ | refine Pw.inX ?_ | refine Pw.inN ?_ | refine Pw.inR ?_ | refine Pw.thenX ?_ | refine Pw.thenR ?_ | refine Pw.ret ?_) | refine Pw.list (Pw.pure rfl rfl rfl ?_) | refine Pw.inY rfl ?_ | refine Pw.list (Pw.off rfl rfl ?_) | refine Pw.condT rfl ?_ | refine Pw.condF rfl ?_)
    refine Pw.condD rfl (fun c3 => ?_) (fun c3 => ?_)
    · rw [if_pos c3] at h
      obtain ⟨c4, h⟩ := ite_none h
      obtain ⟨c5, h⟩ := ite_none h
      rw [Option.bind_some] at h
      repeat (first | (with_reducible first | refine Pw.seq ?_ | refine Pw.region ?_ | refine Pw.nil ?_ | refine Pw.then_ ?_ | refine Pw.skip ?_ | refine Pw.block ?_ | refine Pw.exit ?_ | refine Pw.inX ?_ | refine Pw.inN ?_ | refine Pw.inR ?_ | refine Pw.thenX ?_ | refine Pw.thenR ?_ | refine Pw.ret ?_) | refine Pw.list (Pw.pure rfl rfl rfl ?_) | refine Pw.inY rfl ?_ | refine Pw.list (Pw.off rfl rfl ?_) | refine Pw.condT rfl ?_ | refine Pw.condF rfl ?_)
      refine Pw.list (Pw.indexO rfl rfl rfl rfl c4 (by omega) rfl rfl ?_)
      refine Pw.list (Pw.loadX rfl rfl rfl (.head _) c4 c5 rfl rfl ?_)
      repeat (first | (with_reducible first | refine Pw.seq ?_ | refine Pw.region ?_ | refine Pw.nil ?_ | refine Pw.then_ ?_ | refine Pw.skip ?_ | refine Pw.block ?_ | refine Pw.exit ?_ | refine Pw.inX ?_ | refine Pw.inN ?_ | refine Pw.inR ?_ | refine Pw.thenX ?_ | refine Pw.thenR ?_ | refine Pw.ret ?_) | refine Pw.list (Pw.pure rfl rfl rfl ?_) | refine Pw.inY rfl ?_ | refine Pw.list (Pw.off rfl rfl ?_) | refine Pw.condT rfl ?_ | refine Pw.condF rfl ?_)
      refine Pw.list (Pw.indexO rfl rfl rfl rfl c4 (by omega) rfl rfl ?_)
      refine Pw.list (Pw.storeX rfl rfl rfl rfl rfl c4 c5 .head rfl ?_)
      obtain ⟨o1, ho1⟩ : ∃ o1, out.set i.toNat (rd out i / 2) = o1 := ⟨_, rfl⟩
      have hl1 : o1.length = m := by rw [← ho1, List.length_set]; exact hout
      rw [ho1] at h ⊢
      repeat (first | (with_reducible first | refine Pw.seq ?_ | refine Pw.region ?_ | refine Pw.nil ?_ | refine Pw.then_ ?_ | refine Pw.skip ?_ | refine Pw.block ?_ | refine Pw.exit ?_ | refine Pw.inX ?_ | refine Pw.inN ?_ | refine Pw.inR ?_ | refine Pw.thenX ?_ | refine Pw.thenR ?_ | refine Pw.ret ?_) | refine Pw.list (Pw.pure rfl rfl rfl ?_) | refine Pw.inY rfl ?_ | refine Pw.list (Pw.off rfl rfl ?_) | refine Pw.condT rfl ?_ | refine Pw.condF rfl ?_)
      refine Pw.condD rfl (fun c6 => ?_) (fun c6 => ?_)
      · rw [if_pos c6] at h
        obtain ⟨c7, h⟩ := ite_none h
        refine Pw.use (p := A.isSome = true) (fun w h => (fact0 h).has c7 c6) (fun hA => ?_)
        obtain ⟨ad, rfl⟩ := some_of hA
        repeat (first | (with_reducible first | refine Pw.seq ?_ | refine Pw.region ?_ | refine Pw.nil ?_ | refine Pw.then_ ?_ | refine Pw.skip ?_ | refine Pw.block ?_ | refine Pw.exit ?_ | refine Pw.inX ?_ | refine Pw.inN ?_ | refine Pw.inR ?_ | refine Pw.thenX ?_ | refine Pw.thenR ?_ | refine Pw.ret ?_) | refine Pw.list (Pw.pure rfl rfl rfl ?_) | refine Pw.inY rfl ?_ | refine Pw.list (Pw.off rfl rfl ?_) | refine Pw.condT rfl ?_ | refine Pw.condF rfl ?_)
        refine Pw.drawnG mixed rfl rfl ?_
        refine Pw.takeP 0 (nb 15 1) rfl rfl rfl rfl (by kernel_rfl) np sf ?_
        refine Pw.takeP 1 (nb 15 3) rfl rfl rfl rfl (by kernel_rfl) np sf ?_
        refine Pw.takeP 2 (nb 15 7) rfl rfl rfl rfl (by kernel_rfl) np sf ?_
        refine Pw.takeP 3 (nb 15 15) rfl rfl rfl rfl (by kernel_rfl) np sf ?_
        refine Pw.takeIx 4 (nb 15 31) rfl rfl rfl rfl rfl (by first | assumption | omega) (by first | assumption | omega) rfl rfl (by kernel_rfl) np sf ?_
        refine Pw.takeP 6 (nb 15 95) rfl rfl rfl rfl (by kernel_rfl) np sf ?_
        refine Pw.takeP 7 (nb 15 223) rfl rfl rfl rfl (by kernel_rfl) np sf ?_
        refine Pw.takeP 8 (nb 15 479) rfl rfl rfl rfl (by kernel_rfl) np sf ?_
        refine Pw.takeIx 9 (nb 15 991) rfl rfl rfl rfl rfl (by first | assumption | omega) (by first | assumption | omega) rfl rfl (by kernel_rfl) np sf ?_
        refine Pw.takeLd 10 (nb 15 2015) rfl rfl rfl (fun w hS => by first | exact own_cell (fact0 hS) (by first | assumption | omega) (by first | assumption | omega) | exact own_cellX (fact0 hS) (by first | assumption | omega) (by first | assumption | omega) | exact (fact0 hS).cell (by first | assumption | omega) (by first | assumption | omega) | exact (fact1 hS).cell (by first | assumption | omega) (by first | assumption | omega) | exact (fact2 hS).cell (by first | assumption | omega) (by first | assumption | omega) | exact (fact3 hS).cell (by first | assumption | omega) (by first | assumption | omega)) rfl rfl (by kernel_rfl) np sf ?_
        refine Pw.takeP 11 (nb 15 4063) rfl rfl rfl rfl (by kernel_rfl) np sf ?_
        refine Pw.one 5 (nb 15 4095) rfl (by kernel_rfl) ?_
        -- load Op.load 46 (Operand.tmp 30)
        refine Pw.re (d := 30) (v' := .pointer (some ⟨g, 0 + i.toNat * 1, none⟩)) rfl (congrArg (fun z => Value.pointer (some z)) (add_none g 0 (i.toNat * 1))) ?_
        refine Pw.loadX rfl rfl rfl (.head _) c4 (by omega) rfl rfl (Pw.held (fun w h => h.all) ?_)
        refine Pw.takeP 12 (nb 15 8191) rfl rfl rfl rfl (by kernel_rfl) np sf ?_
        refine Pw.takeIx 13 (nb 15 16383) rfl rfl rfl rfl rfl (by first | assumption | omega) (by first | assumption | omega) rfl rfl (by kernel_rfl) np sf ?_
        refine Pw.one 14 (nb 15 32767) rfl (by kernel_rfl) ?_
        -- eff Op.store 46 (Operand.tmp 39) (Operand.tmp 38)
        refine Pw.re (d := 39) (v' := .pointer (some ⟨g, 0 + i.toNat * 1, none⟩)) rfl (congrArg (fun z => Value.pointer (some z)) (add_none g 0 (i.toNat * 1))) ?_
        refine Pw.storeX rfl rfl rfl rfl rfl c4 (by omega) .head rfl (Pw.held (fun w h => h.all) ?_)
        refine Pw.done (by kernel_rfl) ?_
        repeat (first | (with_reducible first | refine Pw.seq ?_ | refine Pw.region ?_ | refine Pw.nil ?_ | refine Pw.then_ ?_ | refine Pw.skip ?_ | refine Pw.block ?_ | refine Pw.exit ?_ | refine Pw.inX ?_ | refine Pw.inN ?_ | refine Pw.inR ?_ | refine Pw.thenX ?_ | refine Pw.thenR ?_ | refine Pw.ret ?_) | refine Pw.list (Pw.pure rfl rfl rfl ?_) | refine Pw.inY rfl ?_ | refine Pw.list (Pw.off rfl rfl ?_) | refine Pw.condT rfl ?_ | refine Pw.condF rfl ?_)
        exact Pw.again (k, _, _) ⟨h, by rw [List.length_set]; exact hl1⟩ (Nat.lt_succ_self _) ⟨rfl, rfl, rfl, rfl, trivial⟩ rfl (fun w h => h)
      · rw [if_neg c6] at h
        repeat (first | (with_reducible first | refine Pw.seq ?_ | refine Pw.region ?_ | refine Pw.nil ?_ | refine Pw.then_ ?_ | refine Pw.skip ?_ | refine Pw.block ?_ | refine Pw.exit ?_ | refine Pw.inX ?_ | refine Pw.inN ?_ | refine Pw.inR ?_ | refine Pw.thenX ?_ | refine Pw.thenR ?_ | refine Pw.ret ?_) | refine Pw.list (Pw.pure rfl rfl rfl ?_) | refine Pw.inY rfl ?_ | refine Pw.list (Pw.off rfl rfl ?_) | refine Pw.condT rfl ?_ | refine Pw.condF rfl ?_)
        exact Pw.again (k, _, _) ⟨h, hl1⟩ (Nat.lt_succ_self _) ⟨rfl, rfl, rfl, rfl, trivial⟩ rfl (fun w h => h)
    · rw [if_neg c3] at h
      obtain ⟨t, ht, h⟩ := Option.bind_eq_some_iff.1 h
      have e1 := rtrim_some (by omega) ht
      subst e1
      obtain rfl := Option.some.inj h
      refine freeHead ?_
      repeat (first | (with_reducible first | refine Pw.seq ?_ | refine Pw.region ?_ | refine Pw.nil ?_ | refine Pw.then_ ?_ | refine Pw.skip ?_ | refine Pw.block ?_ | refine Pw.exit ?_ | refine Pw.inX ?_ | refine Pw.inN ?_ | refine Pw.inR ?_ | refine Pw.thenX ?_ | refine Pw.thenR ?_ | refine Pw.ret ?_) | refine Pw.list (Pw.pure rfl rfl rfl ?_) | refine Pw.inY rfl ?_ | refine Pw.list (Pw.off rfl rfl ?_) | refine Pw.condT rfl ?_ | refine Pw.condF rfl ?_)
      refine Pw.re (d := 41) (v' := sl out (some ⟨g, 0, none⟩, cap)) rfl (congrArg (fun m => Value.slice (some ⟨g, 0, none⟩) m cap) hout.symm) ?_
      refine Pw.list (Pw.call (rtrim_ct out (some ⟨g, 0, none⟩, cap) (by omega)) rfl rfl rfl (by kernel_rfl) rfl rfl (fun w h => ints_of_row (fact0 h) (by omega) (by simp only [maxLen]; omega)) ?_)
      intro z1 _
      repeat (first | (with_reducible first | refine Pw.seq ?_ | refine Pw.region ?_ | refine Pw.nil ?_ | refine Pw.then_ ?_ | refine Pw.skip ?_ | refine Pw.block ?_ | refine Pw.exit ?_ | refine Pw.inX ?_ | refine Pw.inN ?_ | refine Pw.inR ?_ | refine Pw.thenX ?_ | refine Pw.thenR ?_ | refine Pw.ret ?_) | refine Pw.list (Pw.pure rfl rfl rfl ?_) | refine Pw.inY rfl ?_ | refine Pw.list (Pw.off rfl rfl ?_) | refine Pw.condT rfl ?_ | refine Pw.condF rfl ?_)
      exact Pw.ret_ (x := z1) (.tmp rfl .nil) rfl trivial (fun w h => fact0 h)
  · obtain rfl := List.eq_nil_of_length_eq_zero h0
    obtain _ | k := k
    · cases h
    simp only [psephosref01_half.l0] at h
    rw [if_neg (by simp)] at h
    obtain ⟨t, ht, h⟩ := Option.bind_eq_some_iff.1 h
    have e1 := rtrim_some (by simp) ht
    subst e1
    obtain rfl := Option.some.inj h
    repeat (first | (with_reducible first | refine Pw.seq ?_ | refine Pw.region ?_ | refine Pw.nil ?_ | refine Pw.then_ ?_ | refine Pw.skip ?_ | refine Pw.block ?_ | refine Pw.exit ?_ | refine Pw.inX ?_ | refine Pw.inN ?_ | refine Pw.inR ?_ | refine Pw.thenX ?_ | refine Pw.thenR ?_ | refine Pw.ret ?_) | refine Pw.list (Pw.pure rfl rfl rfl ?_) | refine Pw.inY rfl ?_ | refine Pw.list (Pw.off rfl rfl ?_) | refine Pw.condT rfl ?_ | refine Pw.condF rfl ?_)
    refine Pw.rounds 1 ?_
    refine Pw.round ?_
    repeat (first | (with_reducible first | refine Pw.seq ?_ | refine Pw.region ?_ | refine Pw.nil ?_ | refine Pw.then_ ?_ | refine Pw.skip ?_ | refine Pw.block ?_ | refine Pw.exit ?_ | refine Pw.inX ?_ | refine Pw.inN ?_ | refine Pw.inR ?_ | refine Pw.thenX ?_ | refine Pw.thenR ?_ | refine Pw.ret ?_) | refine Pw.list (Pw.pure rfl rfl rfl ?_) | refine Pw.inY rfl ?_ | refine Pw.list (Pw.off rfl rfl ?_) | refine Pw.condT rfl ?_ | refine Pw.condF rfl ?_)
    refine Pw.list (Pw.call (rtrim_ct [] (some ⟨g, 0, none⟩, 0) (by simp)) rfl rfl rfl (by kernel_rfl) rfl rfl (fun w h => Rows.nil _ _ _ _ _) ?_)
    intro z1 _
    repeat (first | (with_reducible first | refine Pw.seq ?_ | refine Pw.region ?_ | refine Pw.nil ?_ | refine Pw.then_ ?_ | refine Pw.skip ?_ | refine Pw.block ?_ | refine Pw.exit ?_ | refine Pw.inX ?_ | refine Pw.inN ?_ | refine Pw.inR ?_ | refine Pw.thenX ?_ | refine Pw.thenR ?_ | refine Pw.ret ?_) | refine Pw.list (Pw.pure rfl rfl rfl ?_) | refine Pw.inY rfl ?_ | refine Pw.list (Pw.off rfl rfl ?_) | refine Pw.condT rfl ?_ | refine Pw.condF rfl ?_)
    exact Pw.ret_ (x := z1) (.tmp rfl .nil) rfl trivial (fun w h => fact0 h)
theorem trimL_le : ∀ l : List Int, (trimL l).length ≤ l.length
  | [] => Nat.le_refl _
  | x :: xs => by
    have := trimL_le xs
    unfold trimL; split
    · simp
    · simp only [List.length_cons]; omega
theorem sub_len0 : ∀ (k : Nat) (b out : List Int) (br n i : Int) (r : List Int), psephosref01_sub.l0 k b out br n i = some r → out.length < 1099511627776 → r.length ≤ out.length
  | 0, b, out, br, n, i, r, h, hl => by cases h
  | k + 1, b, out, br, n, i, r, h, hl => by
    simp only [psephosref01_sub.l0] at h
    split at h
    · split at h
      · obtain ⟨_, h⟩ := ite_none h
        obtain ⟨_, h⟩ := ite_none h
        split at h <;> (have := sub_len0 k _ _ _ _ _ _ h (by rw [List.length_set]; exact hl); rw [List.length_set] at this; exact this)
      · obtain ⟨_, h⟩ := ite_none h
        obtain ⟨_, h⟩ := ite_none h
        split at h <;> (have := sub_len0 k _ _ _ _ _ _ h (by rw [List.length_set]; exact hl); rw [List.length_set] at this; exact this)
    · obtain ⟨t, ht, h⟩ := Option.bind_eq_some_iff.1 h
      rw [← Option.some.inj h, rtrim_some hl ht]; exact trimL_le _
theorem sub_len {k : Nat} {a b r : List Int} (h : psephosref01_sub.f k a b = some r) (hl : a.length < 1099511627776) : r.length ≤ a.length := by
  unfold psephosref01_sub.f at h
  rw [Option.bind_some, if_pos (by simp; omega), Option.bind_some, List.nil_append] at h
  exact sub_len0 _ _ _ _ _ _ _ h hl
theorem half_len0 : ∀ (k : Nat) (a out : List Int) (n i : Int) (r : List Int), psephosref01_half.l0 k a out n i = some r → out.length < 1099511627776 → r.length ≤ out.length
  | 0, a, out, n, i, r, h, hl => by cases h
  | k + 1, a, out, n, i, r, h, hl => by
    simp only [psephosref01_half.l0] at h
    split at h
    · obtain ⟨_, h⟩ := ite_none h
      obtain ⟨_, h⟩ := ite_none h
      rw [Option.bind_some] at h
      split at h
      · obtain ⟨_, h⟩ := ite_none h
        have := half_len0 k _ _ _ _ _ h (by rw [List.length_set, List.length_set]; exact hl)
        rw [List.length_set, List.length_set] at this; exact this
      · have := half_len0 k _ _ _ _ _ h (by rw [List.length_set]; exact hl)
        rw [List.length_set] at this; exact this
    · obtain ⟨t, ht, h⟩ := Option.bind_eq_some_iff.1 h
      rw [← Option.some.inj h, rtrim_some hl ht]; exact trimL_le _
theorem half_len {k : Nat} {a r : List Int} (h : psephosref01_half.f k a = some r) (hl : a.length < 4194304) : r.length ≤ a.length := by
  unfold psephosref01_half.f at h
  rw [Option.bind_some, if_pos (by simp; omega), Option.bind_some, List.nil_append] at h
  exact half_len0 _ _ _ _ _ _ h (by omega)
theorem shifted_len0 : ∀ (k : Nat) (a : List Int) (s : Int) (out : List Int) (n i : Int) (r : List Int), psephosref01_shifted.l0 k a s out n i = some r → out.length < 1099511627776 → r.length ≤ out.length
  | 0, a, s, out, n, i, r, h, hl => by cases h
  | k + 1, a, s, out, n, i, r, h, hl => by
    simp only [psephosref01_shifted.l0] at h
    split at h
    · obtain ⟨_, h⟩ := ite_none h
      obtain ⟨_, h⟩ := ite_none h
      obtain ⟨_, h⟩ := ite_none h
      obtain ⟨_, h⟩ := ite_none h
      obtain ⟨_, h⟩ := ite_none h
      obtain ⟨_, h⟩ := ite_none h
      obtain ⟨_, h⟩ := ite_none h
      have := shifted_len0 k _ _ _ _ _ _ h (by rw [List.length_set, List.length_set]; exact hl)
      rw [List.length_set, List.length_set] at this; exact this
    · obtain ⟨t, ht, h⟩ := Option.bind_eq_some_iff.1 h
      rw [← Option.some.inj h, rtrim_some hl ht]; exact trimL_le _
theorem shifted_len {k : Nat} {a r : List Int} {s : Int} (h : psephosref01_shifted.f k a s = some r) (hs : 0 ≤ s) (hs1 : s < 134217728) (hl : a.length < 1048576) : r.length ≤ a.length + (s / 32).toNat + 1 := by
  unfold psephosref01_shifted.f at h
  obtain ⟨_, h⟩ := ite_none h
  obtain ⟨_, h⟩ := ite_none h
  rw [Int.tdiv_eq_ediv_of_nonneg hs, wi64 (n := s / 32) (by omega) (by omega), wi64 (n := (a.length : Int) + s / 32) (by omega) (by omega), wi64 (by omega) (by omega)] at h
  have := shifted_len0 _ _ _ _ _ _ _ h (by rw [List.length_replicate]; omega)
  rw [List.length_replicate] at this; omega
theorem bits_len0 : ∀ (k : Nat) (a : List Int) (n r : Int), psephosref01_bits.l0 k a n = some r → 0 ≤ n → n < 134217728 → 0 ≤ r ∧ r ≤ n
  | 0, a, n, r, h, h0, h1 => by cases h
  | k + 1, a, n, r, h, h0, h1 => by
    simp only [psephosref01_bits.l0] at h
    split at h
    · obtain ⟨_, h⟩ := ite_none h
      obtain ⟨_, h⟩ := ite_none h
      obtain ⟨_, h⟩ := ite_none h
      split at h
      · rw [wi64 (n := n - 1) (by omega) (by omega)] at h
        have := bits_len0 k _ _ _ h (by omega) (by omega); omega
      · have := Option.some.inj h; omega
    · have := Option.some.inj h; omega
theorem bits_len {k : Nat} {a : List Int} {r : Int} (h : psephosref01_bits.f k a = some r) (hl : a.length < 1048576) : 0 ≤ r ∧ r ≤ 32 * a.length := by
  unfold psephosref01_bits.f at h
  rw [wi64 (by omega) (by omega)] at h
  exact bits_len0 _ _ _ _ h (by omega) (by omega)
theorem rdivModF_ct (a b : List Int) (x y : Option Addr × Nat) (k : Nat) (Q M : List Int) (h : psephosref01_divMod.f k a b = some (Q, M)) (hl : a.length < 1048576) (hl' : b.length < 1048576) :
    Ct Try.prog 50 #[sl a x, sl b y] (fun W => S1 a x W ∧ S1 b y W) (fun z : (Option Addr × Nat) × (Option Addr × Nat) => .tuple #[sl Q z.1, sl M z.2]) Tt (fun z W => S1 Q z.1 W ∧ S1 M z.2 W) := by
  unfold psephosref01_divMod.f at h
  obtain ⟨m0, h1, h⟩ := Option.bind_eq_some_iff.1 h
  obtain ⟨n0, h2, h⟩ := Option.bind_eq_some_iff.1 h
  have b1 := bits_len h1 hl
  have b2 := bits_len h2 hl'
  refine Ct.start Try.func50 rfl rfl (slots_of rfl slots2) (fun D w0 => Pw.facts two2 ?_)
  repeat (first | (with_reducible first | refine Pw.seq ?_ | refine Pw.region ?_ | refine Pw.nil ?_ | refine Pw.then_ ?_ | refine Pw.skip ?_ | refine Pw.block ?_ | refine Pw.exit ?_ | refine Pw.inX ?_ | refine Pw.inN ?_ | refine Pw.inR ?_ | refine Pw.thenX ?_ | refine Pw.thenR ?_ | refine Pw.ret ?_) | refine Pw.list (Pw.pure rfl rfl rfl ?_) | refine Pw.inY rfl ?_ | refine Pw.list (Pw.off rfl rfl ?_) | refine Pw.condT rfl ?_ | refine Pw.condF rfl ?_)
  refine Pw.list (Pw.call (rbits_ct a x k m0 h1 (by omega)) rfl rfl rfl (by kernel_rfl) rfl rfl (fun w h => fact0 h) ?_)
  intro _ _
  repeat (first | (with_reducible first | refine Pw.seq ?_ | refine Pw.region ?_ | refine Pw.nil ?_ | refine Pw.then_ ?_ | refine Pw.skip ?_ | refine Pw.block ?_ | refine Pw.exit ?_ | refine Pw.inX ?_ | refine Pw.inN ?_ | refine Pw.inR ?_ | refine Pw.thenX ?_ | refine Pw.thenR ?_ | refine Pw.ret ?_) | refine Pw.list (Pw.pure rfl rfl rfl ?_) | refine Pw.inY rfl ?_ | refine Pw.list (Pw.off rfl rfl ?_) | refine Pw.condT rfl ?_ | refine Pw.condF rfl ?_)
  refine Pw.list (Pw.call (rbits_ct b y k n0 h2 (by omega)) rfl rfl rfl (by kernel_rfl) rfl rfl (fun w h => fact2 h) ?_)
  intro _ _
  have hn1 : wrap64 (m0 - n0) = m0 - n0 := wi64 (by omega) (by omega)
  repeat (first | (with_reducible first | refine Pw.seq ?_ | refine Pw.region ?_ | refine Pw.nil ?_ | refine Pw.then_ ?_ | refine Pw.skip ?_ | refine Pw.block ?_ | refine Pw.exit ?_ | refine Pw.inX ?_ | refine Pw.inN ?_ | refine Pw.inR ?_ | refine Pw.thenX ?_ | refine Pw.thenR ?_ | refine Pw.ret ?_) | refine Pw.list (Pw.pure rfl rfl rfl ?_) | refine Pw.inY rfl ?_ | refine Pw.list (Pw.off rfl rfl ?_) | refine Pw.condT rfl ?_ | refine Pw.condF rfl ?_)
  generalize wrap64 (m0 - n0) = n at h hn1 ⊢
  refine Pw.condD rfl (fun c1 => ?_) (fun c1 => ?_)
  · rw [if_pos c1] at h
    obtain ⟨t, ht, h⟩ := Option.bind_eq_some_iff.1 h
    have e1 := rtrim_some (by omega) ht
    subst e1
    obtain ⟨rfl, rfl⟩ := Prod.mk.inj (Option.some.inj h)
    repeat (first | (with_reducible first | refine Pw.seq ?_ | refine Pw.region ?_ | refine Pw.nil ?_ | refine Pw.then_ ?_ | refine Pw.skip ?_ | refine Pw.block ?_ | refine Pw.exit ?_ | refine Pw.inX ?_ | refine Pw.inN ?_ | refine Pw.inR ?_ | refine Pw.thenX ?_ | refine Pw.thenR ?_ | refine Pw.ret ?_) | refine Pw.list (Pw.pure rfl rfl rfl ?_) | refine Pw.inY rfl ?_ | refine Pw.list (Pw.off rfl rfl ?_) | refine Pw.condT rfl ?_ | refine Pw.condF rfl ?_)
    refine Pw.list (Pw.call (rtrim_ct a x (by omega)) rfl rfl rfl (by kernel_rfl) rfl rfl (fun w h => fact2 h) ?_)
    intro z _
    repeat (first | (with_reducible first | refine Pw.seq ?_ | refine Pw.region ?_ | refine Pw.nil ?_ | refine Pw.then_ ?_ | refine Pw.skip ?_ | refine Pw.block ?_ | refine Pw.exit ?_ | refine Pw.inX ?_ | refine Pw.inN ?_ | refine Pw.inR ?_ | refine Pw.thenX ?_ | refine Pw.thenR ?_ | refine Pw.ret ?_) | refine Pw.list (Pw.pure rfl rfl rfl ?_) | refine Pw.inY rfl ?_ | refine Pw.list (Pw.off rfl rfl ?_) | refine Pw.condT rfl ?_ | refine Pw.condF rfl ?_)
    exact Pw.ret_ (x := ((none, 0), z)) (.tmp rfl (.tmp rfl .nil)) rfl trivial (fun w h => ⟨Rows.nil _ _ _ _ _, fact0 h⟩)
  rw [if_neg c1] at h
  obtain ⟨c2, h⟩ := ite_none h
  obtain ⟨c3, h⟩ := ite_none h
  obtain ⟨r0, h3, h⟩ := Option.bind_eq_some_iff.1 h
  obtain ⟨x0, h4, h⟩ := Option.bind_eq_some_iff.1 h
  obtain rfl := rtrim_some (by omega) h3
  have l1 := trimL_le a
  have l2 := shifted_len h4 (by omega) (by omega) hl'
  obtain ⟨nq, hnq⟩ : ∃ nq, nq = (n / 32).toNat + 1 := ⟨_, rfl⟩
  have e1 : wrap64 (wrap64 (Int.tdiv n 32) + 1) = (nq : Int) := by rw [Int.tdiv_eq_ediv_of_nonneg (by omega), wi64 (n := n / 32) (by omega) (by omega), wi64 (by omega) (by omega)]; omega
  rw [e1, Int.toNat_natCast] at h
  refine Pw.facts (G' := [S1 a x, S1 b y]) (fun w h => allCons (fact2 h) (allCons (fact3 h) allNil)) ?_
  repeat (first | (with_reducible first | refine Pw.seq ?_ | refine Pw.region ?_ | refine Pw.nil ?_ | refine Pw.then_ ?_ | refine Pw.skip ?_ | refine Pw.block ?_ | refine Pw.exit ?_ | refine Pw.inX ?_ | refine Pw.inN ?_ | refine Pw.inR ?_ | refine Pw.thenX ?_ | refine Pw.thenR ?_ | refine Pw.ret ?_) | refine Pw.list (Pw.pure rfl rfl rfl ?_) | refine Pw.inY rfl ?_ | refine Pw.list (Pw.off rfl rfl ?_) | refine Pw.condT rfl ?_ | refine Pw.condF rfl ?_)
  refine Pw.join (σ := Nat × (Option Addr × Nat)) (fun _ => True) (fun s => ⟨[(1, sl b y), (6, .int .i64 n), (7, .slice (some ⟨s.1, 0, none⟩) nq nq), (8, sl (trimL a) s.2)], [⟨s.1, row ((List.replicate nq (0 : Int)).map (Value.int .u32)) 46⟩], [S1 (trimL a) s.2, S1 b y]⟩) ?_ ?_
  · skip
    refine Pw.drawnG mixed rfl rfl ?_
    refine Pw.takeP 0 (nb 8 1) rfl rfl rfl rfl (by kernel_rfl) np sf ?_
    refine Pw.takeP 1 (nb 8 3) rfl rfl rfl rfl (by kernel_rfl) np sf ?_
    refine Pw.takeP 2 (nb 8 7) rfl rfl rfl rfl (by kernel_rfl) np sf ?_
    refine Pw.takeP 4 (nb 8 23) rfl rfl rfl rfl (by kernel_rfl) np sf ?_
    refine Pw.two 3 5 (nb 8 31) (nb 8 55) rfl rfl (by kernel_rfl) ?_ ?_
    · skip
      refine Pw.re (d := 22) (v' := .int .i64 (nq : Int)) rfl (by rw [e1]) ?_
      refine Pw.make rfl rfl rfl rfl rfl rfl (show 4 * nq ≤ _ by omega) (by simp only [maxLen]; omega) rfl rfl (fun g => ?_)
      refine Pw.held sf ?_
      refine Pw.one 5 (nb 8 63) rfl (by kernel_rfl) ?_
      refine Pw.call (rtrim_ct a x (by omega)) rfl rfl rfl (by kernel_rfl) rfl rfl (fun w h => (hv w h)) ?_
      intro z _
      refine Pw.held sf ?_
      refine Pw.takeP 6 (nb 8 127) rfl rfl rfl rfl (by kernel_rfl) np sf ?_
      refine Pw.takeP 7 (nb 8 255) rfl rfl rfl rfl (by kernel_rfl) np sf ?_
      refine Pw.done (by kernel_rfl) ?_
      rw [zeros_map]
      exact Pw.arrive (g, z) trivial ⟨rfl, rfl, rfl, rfl, trivial⟩ rfl (fun w h => allCons (hv w h) (allCons (hv w h) allNil))
    · skip
      refine Pw.call (rtrim_ct a x (by omega)) rfl rfl rfl (by kernel_rfl) rfl rfl (fun w h => (hv w h)) ?_
      intro z _
      refine Pw.held sf ?_
      refine Pw.one 3 (nb 8 63) rfl (by kernel_rfl) ?_
      refine Pw.re (d := 22) (v' := .int .i64 (nq : Int)) rfl (by rw [e1]) ?_
      refine Pw.make rfl rfl rfl rfl rfl rfl (show 4 * nq ≤ _ by omega) (by simp only [maxLen]; omega) rfl rfl (fun g => ?_)
      refine Pw.held sf ?_
      refine Pw.takeP 6 (nb 8 127) rfl rfl rfl rfl (by kernel_rfl) np sf ?_
      refine Pw.takeP 7 (nb 8 255) rfl rfl rfl rfl (by kernel_rfl) np sf ?_
      refine Pw.done (by kernel_rfl) ?_
      rw [zeros_map]
      exact Pw.arrive (g, z) trivial ⟨rfl, rfl, rfl, rfl, trivial⟩ rfl (fun w h => allCons (hv w h) (allCons (hv w h) allNil))
  rintro ⟨gq, zr⟩ _
  dsimp only
  repeat (first | (with_reducible first | refine Pw.seq ?_ | refine Pw.region ?_ | refine Pw.nil ?_ | refine Pw.then_ ?_ | refine Pw.skip ?_ | refine Pw.block ?_ | refine Pw.exit ?_ | refine Pw.inX ?_ | refine Pw.inN ?_ | refine Pw.inR ?_ | refine Pw.thenX ?_ | refine Pw.thenR ?_ | refine Pw.ret ?_) | refine Pw.list (Pw.pure rfl rfl rfl ?_) | refine Pw.inY rfl ?_ | refine Pw.list (Pw.off rfl rfl ?_) | refine Pw.condT rfl ?_ | refine Pw.condF rfl ?_)
  refine Pw.list (Pw.call (rshifted_ct b y n k x0 h4 (by omega) (by omega) hl') rfl rfl rfl (by kernel_rfl) rfl rfl (fun w h => fact1 h) ?_)
  intro zx _
  repeat (first | (with_reducible first | refine Pw.seq ?_ | refine Pw.region ?_ | refine Pw.nil ?_ | refine Pw.then_ ?_ | refine Pw.skip ?_ | refine Pw.block ?_ | refine Pw.exit ?_ | refine Pw.inX ?_ | refine Pw.inN ?_ | refine Pw.inR ?_ | refine Pw.thenX ?_ | refine Pw.thenR ?_ | refine Pw.ret ?_) | refine Pw.list (Pw.pure rfl rfl rfl ?_) | refine Pw.inY rfl ?_ | refine Pw.list (Pw.off rfl rfl ?_) | refine Pw.condT rfl ?_ | refine Pw.condF rfl ?_)
  refine Pw.loopJ (σ := Nat × List Int × (List Int × (Option Addr × Nat)) × (List Int × (Option Addr × Nat)) × Int) (fun t => psephosref01_divMod.l0 t.1 t.2.1 t.2.2.1.1 t.2.2.2.1.1 t.2.2.2.2 = some (Q, M) ∧ t.2.1.length = nq ∧ t.2.2.1.1.length < 4194304 ∧ t.2.2.2.1.1.length < 4194304)
    (fun t => ⟨[(7, .slice (some ⟨gq, 0, none⟩) nq nq), (8, sl t.2.2.1.1 t.2.2.1.2), (9, sl t.2.2.2.1.1 t.2.2.2.1.2), (10, .int .i64 t.2.2.2.2)], [⟨gq, row (t.2.1.map (Value.int .u32)) 46⟩], [S1 t.2.2.1.1 t.2.2.1.2, S1 t.2.2.2.1.1 t.2.2.2.1.2]⟩) (fun s => s.1) (k, _, (_, zr), (x0, zx), n) ⟨h, by simp, by show (trimL a).length < _; omega, by show x0.length < _; omega⟩ (Pw.enter ⟨rfl, rfl, rfl, rfl, trivial⟩ (fun _ h => allCons (fact1 h) (allCons (fact0 h) allNil))) ?_
  have hq2 : nq < 8388608 := by omega
  clear h h1 h2 h4 l1 l2 e1 hn1 c1 c2 c3 hnq
  rintro ⟨k, q, ⟨r, zr⟩, ⟨x, zx⟩, i⟩ ⟨h, hq, hr, hx⟩
  dsimp only at h hq hr hx ⊢
  obtain _ | k := k
  · cases h
  simp only [psephosref01_divMod.l0] at h
  repeat (first | (with_reducible first | refine Pw.seq ?_ | refine Pw.region ?_ | refine Pw.nil ?_ | refine Pw.then_ ?_ | refine Pw.skip ?_ | refine Pw.block ?_ | refine Pw.exit ?_ | refine Pw.inX ?_ | refine Pw.inN ?_ | refine Pw.inR ?_ | refine Pw.thenX ?_ | refine Pw.thenR ?_ | refine Pw.ret ?_) | refine Pw.list (Pw.pure rfl rfl rfl ?_) | refine Pw.inY rfl ?_ | refine Pw.list (Pw.off rfl rfl ?_) | refine Pw.condT rfl ?_ | refine Pw.condF rfl ?_)
  refine Pw.condD rfl (fun c1 => ?_) (fun c1 => ?_)
  · rw [if_pos c1] at h
    obtain ⟨cm, h1, h⟩ := Option.bind_eq_some_iff.1 h
    repeat (first | (with_reducible first | refine Pw.seq ?_ | refine Pw.region ?_ | refine Pw.nil ?_ | refine Pw.then_ ?_ | refine Pw.skip ?_ | refine Pw.block ?_ | refine Pw.exit ?_ | refine Pw.inX ?_ | refine Pw.inN ?_ | refine Pw.inR ?_ | refine Pw.thenX ?_ | refine Pw.thenR ?_ | refine Pw.ret ?_) | refine Pw.list (Pw.pure rfl rfl rfl ?_) | refine Pw.inY rfl ?_ | refine Pw.list (Pw.off rfl rfl ?_) | refine Pw.condT rfl ?_ | refine Pw.condF rfl ?_)
    refine Pw.list (Pw.call (rcmpF_ct r x zr zx k cm h1) rfl rfl rfl (by kernel_rfl) rfl rfl (fun w h => ⟨fact0 h, fact1 h⟩) ?_)
    intro _ _
    repeat (first | (with_reducible first | refine Pw.seq ?_ | refine Pw.region ?_ | refine Pw.nil ?_ | refine Pw.then_ ?_ | refine Pw.skip ?_ | refine Pw.block ?_ | refine Pw.exit ?_ | refine Pw.inX ?_ | refine Pw.inN ?_ | refine Pw.inR ?_ | refine Pw.thenX ?_ | refine Pw.thenR ?_ | refine Pw.ret ?_) | refine Pw.list (Pw.pure rfl rfl rfl ?_) | refine Pw.inY rfl ?_ | refine Pw.list (Pw.off rfl rfl ?_) | refine Pw.condT rfl ?_ | refine Pw.condF rfl ?_)
    refine Pw.condD rfl (fun c2 => ?_) (fun c2 => ?_)
    · rw [if_pos c2] at h
      obtain ⟨r2, h2, h⟩ := Option.bind_eq_some_iff.1 h
      obtain ⟨d1, h⟩ := ite_none h
      obtain ⟨d2, h⟩ := ite_none h
      obtain ⟨d3, h⟩ := ite_none h
      obtain ⟨x2, h3, h⟩ := Option.bind_eq_some_iff.1 h
      have l2 := sub_len h2 (by omega)
      have l3 := half_len h3 (by omega)
      repeat (first | (with_reducible first | refine Pw.seq ?_ | refine Pw.region ?_ | refine Pw.nil ?_ | refine Pw.then_ ?_ | refine Pw.skip ?_ | refine Pw.block ?_ | refine Pw.exit ?_ | refine Pw.inX ?_ | refine Pw.inN ?_ | refine Pw.inR ?_ | refine Pw.thenX ?_ | refine Pw.thenR ?_ | refine Pw.ret ?_) | refine Pw.list (Pw.pure rfl rfl rfl ?_) | refine Pw.inY rfl ?_ | refine Pw.list (Pw.off rfl rfl ?_) | refine Pw.condT rfl ?_ | refine Pw.condF rfl ?_)
      refine Pw.list (Pw.call (rsubF_ct r x zr zx k r2 h2 hr) rfl rfl rfl (by kernel_rfl) rfl rfl (fun w h => ⟨fact1 h, fact2 h⟩) ?_)
      intro zr2 _
      repeat (first | (with_reducible first | refine Pw.seq ?_ | refine Pw.region ?_ | refine Pw.nil ?_ | refine Pw.then_ ?_ | refine Pw.skip ?_ | refine Pw.block ?_ | refine Pw.exit ?_ | refine Pw.inX ?_ | refine Pw.inN ?_ | refine Pw.inR ?_ | refine Pw.thenX ?_ | refine Pw.thenR ?_ | refine Pw.ret ?_) | refine Pw.list (Pw.pure rfl rfl rfl ?_) | refine Pw.inY rfl ?_ | refine Pw.list (Pw.off rfl rfl ?_) | refine Pw.condT rfl ?_ | refine Pw.condF rfl ?_)
      refine Pw.list (Pw.indexO rfl rfl rfl rfl d1 (by omega) rfl rfl ?_)
      refine Pw.list (Pw.loadI rfl rfl rfl (.head _) d1 d2 rfl rfl ?_)
      repeat (first | (with_reducible first | refine Pw.seq ?_ | refine Pw.region ?_ | refine Pw.nil ?_ | refine Pw.then_ ?_ | refine Pw.skip ?_ | refine Pw.block ?_ | refine Pw.exit ?_ | refine Pw.inX ?_ | refine Pw.inN ?_ | refine Pw.inR ?_ | refine Pw.thenX ?_ | refine Pw.thenR ?_ | refine Pw.ret ?_) | refine Pw.list (Pw.pure rfl rfl rfl ?_) | refine Pw.inY rfl ?_ | refine Pw.list (Pw.off rfl rfl ?_) | refine Pw.condT rfl ?_ | refine Pw.condF rfl ?_)
      refine Pw.list (Pw.shl rfl rfl rfl d3 rfl rfl ?_)
      repeat (first | (with_reducible first | refine Pw.seq ?_ | refine Pw.region ?_ | refine Pw.nil ?_ | refine Pw.then_ ?_ | refine Pw.skip ?_ | refine Pw.block ?_ | refine Pw.exit ?_ | refine Pw.inX ?_ | refine Pw.inN ?_ | refine Pw.inR ?_ | refine Pw.thenX ?_ | refine Pw.thenR ?_ | refine Pw.ret ?_) | refine Pw.list (Pw.pure rfl rfl rfl ?_) | refine Pw.inY rfl ?_ | refine Pw.list (Pw.off rfl rfl ?_) | refine Pw.condT rfl ?_ | refine Pw.condF rfl ?_)
      refine Pw.list (Pw.indexO rfl rfl rfl rfl d1 (by omega) rfl rfl ?_)
      refine Pw.list (Pw.storeI rfl rfl rfl rfl rfl d1 d2 .head rfl ?_)
      repeat (first | (with_reducible first | refine Pw.seq ?_ | refine Pw.region ?_ | refine Pw.nil ?_ | refine Pw.then_ ?_ | refine Pw.skip ?_ | refine Pw.block ?_ | refine Pw.exit ?_ | refine Pw.inX ?_ | refine Pw.inN ?_ | refine Pw.inR ?_ | refine Pw.thenX ?_ | refine Pw.thenR ?_ | refine Pw.ret ?_) | refine Pw.list (Pw.pure rfl rfl rfl ?_) | refine Pw.inY rfl ?_ | refine Pw.list (Pw.off rfl rfl ?_) | refine Pw.condT rfl ?_ | refine Pw.condF rfl ?_)
      refine Pw.list (Pw.call (rhalf_ct x zx k x2 h3 hx) rfl rfl rfl (by kernel_rfl) rfl rfl (fun w h => fact3 h) ?_)
      intro zx2 _
      repeat (first | (with_reducible first | refine Pw.seq ?_ | refine Pw.region ?_ | refine Pw.nil ?_ | refine Pw.then_ ?_ | refine Pw.skip ?_ | refine Pw.block ?_ | refine Pw.exit ?_ | refine Pw.inX ?_ | refine Pw.inN ?_ | refine Pw.inR ?_ | refine Pw.thenX ?_ | refine Pw.thenR ?_ | refine Pw.ret ?_) | refine Pw.list (Pw.pure rfl rfl rfl ?_) | refine Pw.inY rfl ?_ | refine Pw.list (Pw.off rfl rfl ?_) | refine Pw.condT rfl ?_ | refine Pw.condF rfl ?_)
      exact Pw.again (k, _, (r2, zr2), (x2, zx2), _) ⟨h, by rw [List.length_set]; exact hq, by show r2.length < _; omega, by show x2.length < _; omega⟩ (Nat.lt_succ_self _) ⟨rfl, rfl, rfl, rfl, trivial⟩ rfl (fun w h => allCons (fact1 h) (allCons (fact0 h) allNil))
    · rw [if_neg c2] at h
      obtain ⟨x2, h3, h⟩ := Option.bind_eq_some_iff.1 h
      have l3 := half_len h3 (by omega)
      repeat (first | (with_reducible first | refine Pw.seq ?_ | refine Pw.region ?_ | refine Pw.nil ?_ | refine Pw.then_ ?_ | refine Pw.skip ?_ | refine Pw.block ?_ | refine Pw.exit ?_ | refine Pw.inX ?_ | refine Pw.inN ?_ | refine Pw.inR ?_ | refine Pw.thenX ?_ | refine Pw.thenR ?_ | refine Pw.ret ?_) | refine Pw.list (Pw.pure rfl rfl rfl ?_) | refine Pw.inY rfl ?_ | refine Pw.list (Pw.off rfl rfl ?_) | refine Pw.condT rfl ?_ | refine Pw.condF rfl ?_)
      refine Pw.list (Pw.call (rhalf_ct x zx k x2 h3 hx) rfl rfl rfl (by kernel_rfl) rfl rfl (fun w h => fact2 h) ?_)
      intro zx2 _
      repeat (first | (with_reducible first | refine Pw.seq ?_ | refine Pw.region ?_ | refine Pw.nil ?_ | refine Pw.then_ ?_ | refine Pw.skip ?_ | refine Pw.block ?_ | refine Pw.exit ?_ | refine Pw.inX ?_ | refine Pw.inN ?_ | refine Pw.inR ?_ | refine Pw.thenX ?_ | refine Pw.thenR ?_ | refine Pw.ret ?_) | refine Pw.list (Pw.pure rfl rfl rfl ?_) | refine Pw.inY rfl ?_ | refine Pw.list (Pw.off rfl rfl ?_) | refine Pw.condT rfl ?_ | refine Pw.condF rfl ?_)
      exact Pw.again (k, _, (r, zr), (x2, zx2), _) ⟨h, hq, hr, by show x2.length < _; omega⟩ (Nat.lt_succ_self _) ⟨rfl, rfl, rfl, rfl, trivial⟩ rfl (fun w h => allCons (fact2 h) (allCons (fact0 h) allNil))
  · rw [if_neg c1] at h
    obtain ⟨t, ht, h⟩ := Option.bind_eq_some_iff.1 h
    have hq1 : q.length < 1099511627776 := by rw [hq]; omega
    have e1 := rtrim_some hq1 ht
    subst e1
    obtain ⟨rfl, rfl⟩ := Prod.mk.inj (Option.some.inj h)
    refine freeHead ?_
    repeat (first | (with_reducible first | refine Pw.seq ?_ | refine Pw.region ?_ | refine Pw.nil ?_ | refine Pw.then_ ?_ | refine Pw.skip ?_ | refine Pw.block ?_ | refine Pw.exit ?_ | refine Pw.inX ?_ | refine Pw.inN ?_ | refine Pw.inR ?_ | refine Pw.thenX ?_ | refine Pw.thenR ?_ | refine Pw.ret ?_) | refine Pw.list (Pw.pure rfl rfl rfl ?_) | refine Pw.inY rfl ?_ | refine Pw.list (Pw.off rfl rfl ?_) | refine Pw.condT rfl ?_ | refine Pw.condF rfl ?_)
    refine Pw.re (d := 57) (v' := sl q (some ⟨gq, 0, none⟩, nq)) rfl (congrArg (fun m => Value.slice (some ⟨gq, 0, none⟩) m nq) hq.symm) ?_
    refine Pw.list (Pw.call (rtrim_ct q (some ⟨gq, 0, none⟩, nq) hq1) rfl rfl rfl (by kernel_rfl) rfl rfl (fun w h => ints_of_row' (fact0 h) (by omega) (by simp only [maxLen]; omega)) ?_)
    intro z1 _
    repeat (first | (with_reducible first | refine Pw.seq ?_ | refine Pw.region ?_ | refine Pw.nil ?_ | refine Pw.then_ ?_ | refine Pw.skip ?_ | refine Pw.block ?_ | refine Pw.exit ?_ | refine Pw.inX ?_ | refine Pw.inN ?_ | refine Pw.inR ?_ | refine Pw.thenX ?_ | refine Pw.thenR ?_ | refine Pw.ret ?_) | refine Pw.list (Pw.pure rfl rfl rfl ?_) | refine Pw.inY rfl ?_ | refine Pw.list (Pw.off rfl rfl ?_) | refine Pw.condT rfl ?_ | refine Pw.condF rfl ?_)
    exact Pw.ret_ (x := (z1, zr)) (.tmp rfl (.tmp rfl .nil)) rfl trivial (fun w h => ⟨fact0 h, fact2 h⟩)
end Go.Proofs.Wk
/- Walks of the reference: the greatest common divisor; lowest terms. -/
namespace Go.Proofs.Wk
open Go.RowKit
set_option maxRecDepth 100000
attribute [local irreducible] Pw OpG
set_option linter.unusedVariables false
set_option linter.unusedSimpArgs false
theorem rdivMod_ct (a b : List Int) (x y : Option Addr × Nat) (ha : Fm a) (hb : Fm b) (hb0 : b.length ≠ 0) (hl : a.length < 1048576) (hl' : b.length < 1048576) :
    Ct Try.prog 50 #[sl a x, sl b y] (fun W => S1 a x W ∧ S1 b y W) (fun z : (Option Addr × Nat) × (Option Addr × Nat) => .tuple #[sl (natL (val a / val b)) z.1, sl (natL (val a % val b)) z.2]) Tt (fun z W => S1 (natL (val a / val b)) z.1 W ∧ S1 (natL (val a % val b)) z.2 W) :=
  rdivModF_ct a b x y _ _ _ (rdivMod_ev ha hb hb0 (by omega) (by omega) (Nat.lt_succ_self _)) hl hl'
theorem rgcd_ct (a b : List Int) (x y : Option Addr × Nat) (ha : Fm a) (hb : Fm b) (hl : a.length < 1048576) (hl' : b.length < 1048576) :
    Ct Try.prog 49 #[sl a x, sl b y] (fun W => S1 a x W ∧ S1 b y W) (fun z : Option Addr × Nat => sl (natL (gcdI (val a) (val b))) z) Tt (fun z => S1 (natL (gcdI (val a) (val b))) z) := by
  refine Ct.start Try.func49 rfl rfl (slots_of rfl slots2) (fun D w0 => Pw.facts two2 ?_)
  obtain ⟨G0, hG0⟩ : ∃ z, z = gcdI (val a) (val b) := ⟨_, rfl⟩
  rw [← hG0]
  obtain ⟨L, hL⟩ : ∃ L, L = max a.length b.length := ⟨_, rfl⟩
  have hL1 : L < 1048576 := by omega
  have va := val_nonneg ha.1; have vb := val_nonneg hb.1
  have pa : val a < pw L := by have := val_lt_pw ha.1; have := pw_le (show a.length ≤ L by omega); omega
  have pb : val b < pw L := by have := val_lt_pw hb.1; have := pw_le (show b.length ≤ L by omega); omega
  have ea := ha.natL; have eb := hb.natL
  repeat (first | (with_reducible first | refine Pw.seq ?_ | refine Pw.region ?_ | refine Pw.nil ?_ | refine Pw.then_ ?_ | refine Pw.skip ?_ | refine Pw.block ?_ | refine Pw.exit ?_ | refine Pw.inX ?_ | refine Pw.inN ?_ | refine Pw.inR ?_ | refine Pw.thenX ?_ | refine Pw.thenR ?_ | refine Pw.ret ?_) | refine Pw.list (Pw.pure rfl rfl rfl ?_) | refine Pw.inY rfl ?_ | refine Pw.list (Pw.off rfl rfl ?_) | refine Pw.condT rfl ?_ | refine Pw.condF rfl ?_)
  refine Pw.loopJ (σ := (Int × (Option Addr × Nat)) × Int × (Option Addr × Nat)) (fun s => 0 ≤ s.1.1 ∧ 0 ≤ s.2.1 ∧ s.1.1 < pw L ∧ s.2.1 < pw L ∧ G0 = gcdI s.1.1 s.2.1) (fun s => ⟨[(0, sl (natL s.1.1) s.1.2), (1, sl (natL s.2.1) s.2.2)], [], [S1 (natL s.1.1) s.1.2, S1 (natL s.2.1) s.2.2]⟩) (fun s => s.2.1.toNat) ((val a, x), (val b, y)) ⟨va, vb, pa, pb, hG0⟩ ?_ ?_
  · rw [← ea, ← eb]
    exact Pw.enter ⟨rfl, rfl, trivial⟩ (fun _ h => h)
  clear ea eb va vb pa pb hG0
  rintro ⟨⟨u, x⟩, ⟨v, y⟩⟩ ⟨hu, hv, pu, pv, hG⟩
  dsimp only at hu hv pu pv hG ⊢
  have lu := natL_len_le hu pu
  have lv := natL_len_le hv pv
  repeat (first | (with_reducible first | refine Pw.seq ?_ | refine Pw.region ?_ | refine Pw.nil ?_ | refine Pw.then_ ?_ | refine Pw.skip ?_ | refine Pw.block ?_ | refine Pw.exit ?_ | refine Pw.inX ?_ | refine Pw.inN ?_ | refine Pw.inR ?_ | refine Pw.thenX ?_ | refine Pw.thenR ?_ | refine Pw.ret ?_) | refine Pw.list (Pw.pure rfl rfl rfl ?_) | refine Pw.inY rfl ?_ | refine Pw.list (Pw.off rfl rfl ?_) | refine Pw.condT rfl ?_ | refine Pw.condF rfl ?_)
  refine Pw.condD rfl (fun c1 => ?_) (fun c1 => ?_)
  · have h0 : v ≠ 0 := fun e => by rw [(natL_len_zero hv).2 e] at c1; omega
    have r0 := Int.emod_nonneg u h0
    have r1 := Int.emod_lt_of_pos u (show 0 < v by omega)
    repeat (first | (with_reducible first | refine Pw.seq ?_ | refine Pw.region ?_ | refine Pw.nil ?_ | refine Pw.then_ ?_ | refine Pw.skip ?_ | refine Pw.block ?_ | refine Pw.exit ?_ | refine Pw.inX ?_ | refine Pw.inN ?_ | refine Pw.inR ?_ | refine Pw.thenX ?_ | refine Pw.thenR ?_ | refine Pw.ret ?_) | refine Pw.list (Pw.pure rfl rfl rfl ?_) | refine Pw.inY rfl ?_ | refine Pw.list (Pw.off rfl rfl ?_) | refine Pw.condT rfl ?_ | refine Pw.condF rfl ?_)
    refine Pw.list (Pw.call (rdivMod_ct (natL u) (natL v) x y (natL_fm u) (natL_fm v) (by omega) (by omega) (by omega)) rfl rfl rfl (by kernel_rfl) rfl rfl (fun w h => ⟨fact0 h, fact1 h⟩) ?_)
    intro z _
    rw [val_natL hu, val_natL hv]
    repeat (first | (with_reducible first | refine Pw.seq ?_ | refine Pw.region ?_ | refine Pw.nil ?_ | refine Pw.then_ ?_ | refine Pw.skip ?_ | refine Pw.block ?_ | refine Pw.exit ?_ | refine Pw.inX ?_ | refine Pw.inN ?_ | refine Pw.inR ?_ | refine Pw.thenX ?_ | refine Pw.thenR ?_ | refine Pw.ret ?_) | refine Pw.list (Pw.pure rfl rfl rfl ?_) | refine Pw.inY rfl ?_ | refine Pw.list (Pw.off rfl rfl ?_) | refine Pw.condT rfl ?_ | refine Pw.condF rfl ?_)
    exact Pw.again ((v, y), (u % v, z.2)) ⟨hv, r0, pv, by show u % v < pw L; omega, by rw [hG]; exact gcdI_step hu (by omega)⟩ (by show (u % v).toNat < v.toNat; omega) ⟨rfl, rfl, trivial⟩ rfl (fun w h => allCons (fact2 h) (allCons (fact0 h).2 allNil))
  · have h0 : v = 0 := (natL_len_zero hv).1 (by omega)
    subst h0
    rw [gcdI_zero hu] at hG
    subst hG
    repeat (first | (with_reducible first | refine Pw.seq ?_ | refine Pw.region ?_ | refine Pw.nil ?_ | refine Pw.then_ ?_ | refine Pw.skip ?_ | refine Pw.block ?_ | refine Pw.exit ?_ | refine Pw.inX ?_ | refine Pw.inN ?_ | refine Pw.inR ?_ | refine Pw.thenX ?_ | refine Pw.thenR ?_ | refine Pw.ret ?_) | refine Pw.list (Pw.pure rfl rfl rfl ?_) | refine Pw.inY rfl ?_ | refine Pw.list (Pw.off rfl rfl ?_) | refine Pw.condT rfl ?_ | refine Pw.condF rfl ?_)
    refine Pw.list (Pw.call (rtrim_ct (natL G0) x (by omega)) rfl rfl rfl (by kernel_rfl) rfl rfl (fun w h => fact0 h) ?_)
    rw [trim_natL (natL_fm G0).1, val_natL hu]
    intro z _
    repeat (first | (with_reducible first | refine Pw.seq ?_ | refine Pw.region ?_ | refine Pw.nil ?_ | refine Pw.then_ ?_ | refine Pw.skip ?_ | refine Pw.block ?_ | refine Pw.exit ?_ | refine Pw.inX ?_ | refine Pw.inN ?_ | refine Pw.inR ?_ | refine Pw.thenX ?_ | refine Pw.thenR ?_ | refine Pw.ret ?_) | refine Pw.list (Pw.pure rfl rfl rfl ?_) | refine Pw.inY rfl ?_ | refine Pw.list (Pw.off rfl rfl ?_) | refine Pw.condT rfl ?_ | refine Pw.condF rfl ?_)
    exact Pw.ret_ (x := z) (.tmp rfl .nil) rfl trivial (fun w h => fact0 h)
end Go.Proofs.Wk
/- Walks of layer 2: forming fractions. -/
namespace Go.Proofs.Wk
open Go.RowKit
set_option maxRecDepth 100000
attribute [local irreducible] Pw OpG
set_option linter.unusedVariables false
set_option linter.unusedSimpArgs false
abbrev Z2 := (Option Addr × Nat) × (Option Addr × Nat)
abbrev rt (a b : List Int) (z : Z2) : Value := .agg #[sl a z.1, sl b z.2]
abbrev R2 (a b : List Int) (z : Z2) (W : World) : Prop := S1 a z.1 W ∧ S1 b z.2 W
instance {G : List (World → Prop)} {a b : List Int} {z : Z2} : Has (R2 a b z :: G) (S1 a z.1) := ⟨fun w h => (fact0 h).1⟩
instance {G : List (World → Prop)} {a b : List Int} {z : Z2} : Has (R2 a b z :: G) (S1 b z.2) := ⟨fun w h => (fact0 h).2⟩
abbrev z0 : Z2 := ((none, 0), (none, 0))
theorem R2.nil (W : World) : R2 [] [] z0 W := ⟨Rows.nil _ _ _ _ _, Rows.nil _ _ _ _ _⟩
theorem Make_ct (a b : List Int) (x y : Option Addr × Nat) (ha : Lm a) (hb : Lm b) (hl : a.length < 1048576) (hl' : b.length < 1048576) :
    Ct Try.prog 22 #[sl a x, sl b y] (fun W => S1 a x W ∧ S1 b y W) (fun z : Z2 => .tuple #[rt (makeS a b).1 (makeS a b).2.1 z, .int .i64 (makeS a b).2.2]) Tt (fun z => R2 (makeS a b).1 (makeS a b).2.1 z) := by
  refine Ct.start Try.func22 rfl rfl (slots_of rfl slots2) (fun D w0 => Pw.facts two2 ?_)
  have hc := Gcd_ct a b x y ha hb hl hl'
  unfold makeS
  by_cases h : fmB a = true ∧ fmB b = true
  · obtain ⟨ea, la, va, pa⟩ := fm_of ha h.1
    obtain ⟨eb, lb, vb, pb⟩ := fm_of hb h.2
    have eg : gcdS a b = (natL (gcdI (val a) (val b)), 0) := if_pos h
    rw [eg] at hc
    rw [if_pos h]
    repeat (first | (with_reducible first | refine Pw.seq ?_ | refine Pw.region ?_ | refine Pw.nil ?_ | refine Pw.then_ ?_ | refine Pw.skip ?_ | refine Pw.block ?_ | refine Pw.exit ?_ | refine Pw.inX ?_ | refine Pw.inN ?_ | refine Pw.inR ?_ | refine Pw.thenX ?_ | refine Pw.thenR ?_ | refine Pw.ret ?_) | refine Pw.list (Pw.pure rfl rfl rfl ?_) | refine Pw.inY rfl ?_ | refine Pw.list (Pw.off rfl rfl ?_) | refine Pw.condT rfl ?_ | refine Pw.condF rfl ?_ | refine Pw.list (Pw.box rfl rfl rfl rfl (fun _ => ?_)) | refine Pw.list (Pw.alloc rfl rfl rfl rfl rfl (fun _ => ?_)) | refine Pw.list (Pw.build rfl rfl rfl rfl ?_) | refine Pw.list (Pw.ld rfl inferInstance rfl rfl rfl ?_) | refine Pw.list (Pw.sto rfl rfl inferInstance rfl rfl rfl rfl rfl inferInstance rfl ?_))
    refine Pw.list (Pw.call hc rfl rfl rfl (by kernel_rfl) rfl rfl (fun w h => ⟨fact0 h, fact1 h⟩) ?_)
    intro zg _
    repeat (first | (with_reducible first | refine Pw.seq ?_ | refine Pw.region ?_ | refine Pw.nil ?_ | refine Pw.then_ ?_ | refine Pw.skip ?_ | refine Pw.block ?_ | refine Pw.exit ?_ | refine Pw.inX ?_ | refine Pw.inN ?_ | refine Pw.inR ?_ | refine Pw.thenX ?_ | refine Pw.thenR ?_ | refine Pw.ret ?_) | refine Pw.list (Pw.pure rfl rfl rfl ?_) | refine Pw.inY rfl ?_ | refine Pw.list (Pw.off rfl rfl ?_) | refine Pw.condT rfl ?_ | refine Pw.condF rfl ?_ | refine Pw.list (Pw.box rfl rfl rfl rfl (fun _ => ?_)) | refine Pw.list (Pw.alloc rfl rfl rfl rfl rfl (fun _ => ?_)) | refine Pw.list (Pw.build rfl rfl rfl rfl ?_) | refine Pw.list (Pw.ld rfl inferInstance rfl rfl rfl ?_) | refine Pw.list (Pw.sto rfl rfl inferInstance rfl rfl rfl rfl rfl inferInstance rfl ?_))
    refine Pw.condD rfl (fun c1 => ?_) (fun c1 => ?_)
    · rw [if_pos (by omega)]
      repeat (first | (with_reducible first | refine Pw.seq ?_ | refine Pw.region ?_ | refine Pw.nil ?_ | refine Pw.then_ ?_ | refine Pw.skip ?_ | refine Pw.block ?_ | refine Pw.exit ?_ | refine Pw.inX ?_ | refine Pw.inN ?_ | refine Pw.inR ?_ | refine Pw.thenX ?_ | refine Pw.thenR ?_ | refine Pw.ret ?_) | refine Pw.list (Pw.pure rfl rfl rfl ?_) | refine Pw.inY rfl ?_ | refine Pw.list (Pw.off rfl rfl ?_) | refine Pw.condT rfl ?_ | refine Pw.condF rfl ?_ | refine Pw.list (Pw.box rfl rfl rfl rfl (fun _ => ?_)) | refine Pw.list (Pw.alloc rfl rfl rfl rfl rfl (fun _ => ?_)) | refine Pw.list (Pw.build rfl rfl rfl rfl ?_) | refine Pw.list (Pw.ld rfl inferInstance rfl rfl rfl ?_) | refine Pw.list (Pw.sto rfl rfl inferInstance rfl rfl rfl rfl rfl inferInstance rfl ?_))
      exact Pw.ret_ (x := z0) (.cell rfl (fun w hs => hs.own _ (.head _)) rfl (.tmp rfl .nil)) rfl trivial (fun w h => R2.nil w)
    · rw [if_neg (by omega)]
      have hbp := val_pos_of ((fmB_iff hb).1 h.2).2 (by omega)
      have g0 := gcdI_pos (x := val a) hbp
      have gl := gcdI_le (x := val a) hbp
      unfold lowS
      obtain ⟨G, hG⟩ : ∃ g, g = gcdI (val a) (val b) := ⟨_, rfl⟩
      rw [← hG] at g0 gl hc ⊢
      have lg := natL_len_le (n := 400) (show 0 ≤ G by omega) (by omega)
      have fg := fmB_natL' (show 0 ≤ G by omega) (by omega)
      have hz : (natL G).length ≠ 0 := fun e => by have := (natL_len_zero (show 0 ≤ G by omega)).1 e; omega
      have d1 := DivMod_ct a (natL G) x zg ha (natL_fm G).1 hl (by omega)
      have d2 := DivMod_ct b (natL G) y zg hb (natL_fm G).1 hl' (by omega)
      have e1 : divS a (natL G) = (natL (val a / G), natL (val a % G), 0) := by unfold divS; rw [if_pos ⟨h.1, fg⟩, if_neg hz, val_natL (by omega)]
      have e2 : divS b (natL G) = (natL (val b / G), natL (val b % G), 0) := by unfold divS; rw [if_pos ⟨h.2, fg⟩, if_neg hz, val_natL (by omega)]
      rw [e1] at d1
      rw [e2] at d2
      repeat (first | (with_reducible first | refine Pw.seq ?_ | refine Pw.region ?_ | refine Pw.nil ?_ | refine Pw.then_ ?_ | refine Pw.skip ?_ | refine Pw.block ?_ | refine Pw.exit ?_ | refine Pw.inX ?_ | refine Pw.inN ?_ | refine Pw.inR ?_ | refine Pw.thenX ?_ | refine Pw.thenR ?_ | refine Pw.ret ?_) | refine Pw.list (Pw.pure rfl rfl rfl ?_) | refine Pw.inY rfl ?_ | refine Pw.list (Pw.off rfl rfl ?_) | refine Pw.condT rfl ?_ | refine Pw.condF rfl ?_ | refine Pw.list (Pw.box rfl rfl rfl rfl (fun _ => ?_)) | refine Pw.list (Pw.alloc rfl rfl rfl rfl rfl (fun _ => ?_)) | refine Pw.list (Pw.build rfl rfl rfl rfl ?_) | refine Pw.list (Pw.ld rfl inferInstance rfl rfl rfl ?_) | refine Pw.list (Pw.sto rfl rfl inferInstance rfl rfl rfl rfl rfl inferInstance rfl ?_))
      refine Pw.list (Pw.call d1 rfl rfl rfl (by kernel_rfl) rfl rfl (fun w h => ⟨fact1 h, fact0 h⟩) ?_)
      intro z1 _
      repeat (first | (with_reducible first | refine Pw.seq ?_ | refine Pw.region ?_ | refine Pw.nil ?_ | refine Pw.then_ ?_ | refine Pw.skip ?_ | refine Pw.block ?_ | refine Pw.exit ?_ | refine Pw.inX ?_ | refine Pw.inN ?_ | refine Pw.inR ?_ | refine Pw.thenX ?_ | refine Pw.thenR ?_ | refine Pw.ret ?_) | refine Pw.list (Pw.pure rfl rfl rfl ?_) | refine Pw.inY rfl ?_ | refine Pw.list (Pw.off rfl rfl ?_) | refine Pw.condT rfl ?_ | refine Pw.condF rfl ?_ | refine Pw.list (Pw.box rfl rfl rfl rfl (fun _ => ?_)) | refine Pw.list (Pw.alloc rfl rfl rfl rfl rfl (fun _ => ?_)) | refine Pw.list (Pw.build rfl rfl rfl rfl ?_) | refine Pw.list (Pw.ld rfl inferInstance rfl rfl rfl ?_) | refine Pw.list (Pw.sto rfl rfl inferInstance rfl rfl rfl rfl rfl inferInstance rfl ?_))
      refine Pw.list (Pw.call d2 rfl rfl rfl (by kernel_rfl) rfl rfl (fun w h => ⟨fact3 h, fact1 h⟩) ?_)
      intro z2 _
      repeat (first | (with_reducible first | refine Pw.seq ?_ | refine Pw.region ?_ | refine Pw.nil ?_ | refine Pw.then_ ?_ | refine Pw.skip ?_ | refine Pw.block ?_ | refine Pw.exit ?_ | refine Pw.inX ?_ | refine Pw.inN ?_ | refine Pw.inR ?_ | refine Pw.thenX ?_ | refine Pw.thenR ?_ | refine Pw.ret ?_) | refine Pw.list (Pw.pure rfl rfl rfl ?_) | refine Pw.inY rfl ?_ | refine Pw.list (Pw.off rfl rfl ?_) | refine Pw.condT rfl ?_ | refine Pw.condF rfl ?_ | refine Pw.list (Pw.box rfl rfl rfl rfl (fun _ => ?_)) | refine Pw.list (Pw.alloc rfl rfl rfl rfl rfl (fun _ => ?_)) | refine Pw.list (Pw.build rfl rfl rfl rfl ?_) | refine Pw.list (Pw.ld rfl inferInstance rfl rfl rfl ?_) | refine Pw.list (Pw.sto rfl rfl inferInstance rfl rfl rfl rfl rfl inferInstance rfl ?_))
      exact Pw.ret_ (x := (z1.1, z2.1)) (.cell rfl (fun w hs => hs.own _ (.head _)) rfl (.tmp rfl .nil)) rfl trivial (fun w h => ⟨(fact1 h).1, (fact0 h).1⟩)
  · have eg : gcdS a b = ([], 1) := if_neg h
    rw [eg] at hc
    rw [if_neg h]
    repeat (first | (with_reducible first | refine Pw.seq ?_ | refine Pw.region ?_ | refine Pw.nil ?_ | refine Pw.then_ ?_ | refine Pw.skip ?_ | refine Pw.block ?_ | refine Pw.exit ?_ | refine Pw.inX ?_ | refine Pw.inN ?_ | refine Pw.inR ?_ | refine Pw.thenX ?_ | refine Pw.thenR ?_ | refine Pw.ret ?_) | refine Pw.list (Pw.pure rfl rfl rfl ?_) | refine Pw.inY rfl ?_ | refine Pw.list (Pw.off rfl rfl ?_) | refine Pw.condT rfl ?_ | refine Pw.condF rfl ?_ | refine Pw.list (Pw.box rfl rfl rfl rfl (fun _ => ?_)) | refine Pw.list (Pw.alloc rfl rfl rfl rfl rfl (fun _ => ?_)) | refine Pw.list (Pw.build rfl rfl rfl rfl ?_) | refine Pw.list (Pw.ld rfl inferInstance rfl rfl rfl ?_) | refine Pw.list (Pw.sto rfl rfl inferInstance rfl rfl rfl rfl rfl inferInstance rfl ?_))
    refine Pw.list (Pw.call hc rfl rfl rfl (by kernel_rfl) rfl rfl (fun w h => ⟨fact0 h, fact1 h⟩) ?_)
    intro zg _
    repeat (first | (with_reducible first | refine Pw.seq ?_ | refine Pw.region ?_ | refine Pw.nil ?_ | refine Pw.then_ ?_ | refine Pw.skip ?_ | refine Pw.block ?_ | refine Pw.exit ?_ | refine Pw.inX ?_ | refine Pw.inN ?_ | refine Pw.inR ?_ | refine Pw.thenX ?_ | refine Pw.thenR ?_ | refine Pw.ret ?_) | refine Pw.list (Pw.pure rfl rfl rfl ?_) | refine Pw.inY rfl ?_ | refine Pw.list (Pw.off rfl rfl ?_) | refine Pw.condT rfl ?_ | refine Pw.condF rfl ?_ | refine Pw.list (Pw.box rfl rfl rfl rfl (fun _ => ?_)) | refine Pw.list (Pw.alloc rfl rfl rfl rfl rfl (fun _ => ?_)) | refine Pw.list (Pw.build rfl rfl rfl rfl ?_) | refine Pw.list (Pw.ld rfl inferInstance rfl rfl rfl ?_) | refine Pw.list (Pw.sto rfl rfl inferInstance rfl rfl rfl rfl rfl inferInstance rfl ?_))
    exact Pw.ret_ (x := z0) (.cell rfl (fun w hs => hs.own _ (.head _)) rfl (.tmp rfl .nil)) rfl trivial (fun w h => R2.nil w)
theorem rat_Of_ct (n d : Int) :
    Ct Try.prog 9 #[.int .u64 n, .int .u64 d] (fun _ => True) (fun z : Z2 => .tuple #[rt (makeS (ofN n) (ofN d)).1 (makeS (ofN n) (ofN d)).2.1 z, .int .i64 (makeS (ofN n) (ofN d)).2.2]) Tt (fun z => R2 (makeS (ofN n) (ofN d)).1 (makeS (ofN n) (ofN d)).2.1 z) := by
  have l1 := ofN_len n; have l2 := ofN_len d
  refine Ct.start Try.func9 rfl rfl (slots_of rfl slots2) (fun D w0 => ?_)
  repeat (first | (with_reducible first | refine Pw.seq ?_ | refine Pw.region ?_ | refine Pw.nil ?_ | refine Pw.then_ ?_ | refine Pw.skip ?_ | refine Pw.block ?_ | refine Pw.exit ?_ | refine Pw.inX ?_ | refine Pw.inN ?_ | refine Pw.inR ?_ | refine Pw.thenX ?_ | refine Pw.thenR ?_ | refine Pw.ret ?_) | refine Pw.list (Pw.pure rfl rfl rfl ?_) | refine Pw.inY rfl ?_ | refine Pw.list (Pw.off rfl rfl ?_) | refine Pw.condT rfl ?_ | refine Pw.condF rfl ?_ | refine Pw.list (Pw.box rfl rfl rfl rfl (fun _ => ?_)) | refine Pw.list (Pw.alloc rfl rfl rfl rfl rfl (fun _ => ?_)) | refine Pw.list (Pw.build rfl rfl rfl rfl ?_) | refine Pw.list (Pw.ld rfl inferInstance rfl rfl rfl ?_) | refine Pw.list (Pw.sto rfl rfl inferInstance rfl rfl rfl rfl rfl inferInstance rfl ?_))
  refine Pw.list (Pw.call (Of_ct n) rfl rfl rfl (by kernel_rfl) rfl rfl (fun w h => trivial) ?_)
  intro z1 _
  repeat (first | (with_reducible first | refine Pw.seq ?_ | refine Pw.region ?_ | refine Pw.nil ?_ | refine Pw.then_ ?_ | refine Pw.skip ?_ | refine Pw.block ?_ | refine Pw.exit ?_ | refine Pw.inX ?_ | refine Pw.inN ?_ | refine Pw.inR ?_ | refine Pw.thenX ?_ | refine Pw.thenR ?_ | refine Pw.ret ?_) | refine Pw.list (Pw.pure rfl rfl rfl ?_) | refine Pw.inY rfl ?_ | refine Pw.list (Pw.off rfl rfl ?_) | refine Pw.condT rfl ?_ | refine Pw.condF rfl ?_ | refine Pw.list (Pw.box rfl rfl rfl rfl (fun _ => ?_)) | refine Pw.list (Pw.alloc rfl rfl rfl rfl rfl (fun _ => ?_)) | refine Pw.list (Pw.build rfl rfl rfl rfl ?_) | refine Pw.list (Pw.ld rfl inferInstance rfl rfl rfl ?_) | refine Pw.list (Pw.sto rfl rfl inferInstance rfl rfl rfl rfl rfl inferInstance rfl ?_))
  refine Pw.list (Pw.call (Of_ct d) rfl rfl rfl (by kernel_rfl) rfl rfl (fun w h => trivial) ?_)
  intro z2 _
  repeat (first | (with_reducible first | refine Pw.seq ?_ | refine Pw.region ?_ | refine Pw.nil ?_ | refine Pw.then_ ?_ | refine Pw.skip ?_ | refine Pw.block ?_ | refine Pw.exit ?_ | refine Pw.inX ?_ | refine Pw.inN ?_ | refine Pw.inR ?_ | refine Pw.thenX ?_ | refine Pw.thenR ?_ | refine Pw.ret ?_) | refine Pw.list (Pw.pure rfl rfl rfl ?_) | refine Pw.inY rfl ?_ | refine Pw.list (Pw.off rfl rfl ?_) | refine Pw.condT rfl ?_ | refine Pw.condF rfl ?_ | refine Pw.list (Pw.box rfl rfl rfl rfl (fun _ => ?_)) | refine Pw.list (Pw.alloc rfl rfl rfl rfl rfl (fun _ => ?_)) | refine Pw.list (Pw.build rfl rfl rfl rfl ?_) | refine Pw.list (Pw.ld rfl inferInstance rfl rfl rfl ?_) | refine Pw.list (Pw.sto rfl rfl inferInstance rfl rfl rfl rfl rfl inferInstance rfl ?_))
  refine Pw.list (Pw.call (Make_ct (ofN n) (ofN d) z1 z2 (ofN_fm n).1 (ofN_fm d).1 (by omega) (by omega)) rfl rfl rfl (by kernel_rfl) rfl rfl (fun w h => ⟨fact1 h, fact0 h⟩) ?_)
  intro z _
  repeat (first | (with_reducible first | refine Pw.seq ?_ | refine Pw.region ?_ | refine Pw.nil ?_ | refine Pw.then_ ?_ | refine Pw.skip ?_ | refine Pw.block ?_ | refine Pw.exit ?_ | refine Pw.inX ?_ | refine Pw.inN ?_ | refine Pw.inR ?_ | refine Pw.thenX ?_ | refine Pw.thenR ?_ | refine Pw.ret ?_) | refine Pw.list (Pw.pure rfl rfl rfl ?_) | refine Pw.inY rfl ?_ | refine Pw.list (Pw.off rfl rfl ?_) | refine Pw.condT rfl ?_ | refine Pw.condF rfl ?_ | refine Pw.list (Pw.box rfl rfl rfl rfl (fun _ => ?_)) | refine Pw.list (Pw.alloc rfl rfl rfl rfl rfl (fun _ => ?_)) | refine Pw.list (Pw.build rfl rfl rfl rfl ?_) | refine Pw.list (Pw.ld rfl inferInstance rfl rfl rfl ?_) | refine Pw.list (Pw.sto rfl rfl inferInstance rfl rfl rfl rfl rfl inferInstance rfl ?_))
  exact Pw.ret_ (x := z) (.cell rfl (fun w hs => hs.own _ (.head _)) rfl (.tmp rfl .nil)) rfl trivial (fun w h => fact0 h)
end Go.Proofs.Wk
/- Walks of layer 2: formed fractions; what makes products. -/
namespace Go.Proofs.Wk
open Go.RowKit
set_option maxRecDepth 100000
attribute [local irreducible] Pw OpG
set_option linter.unusedVariables false
set_option linter.unusedSimpArgs false
theorem one_ct (a : List Int) (x : Option Addr × Nat) (ha : Fm a) : Ct Try.prog 35 #[sl a x] (S1 a x) (fun _ : Unit => .bool (decide (val a = 1))) Tt (fun _ _ => True) := by
  obtain ⟨A, c⟩ := x
  refine Ct.start Try.func35 rfl rfl (slots_of rfl slots1) (fun D w0 => ?_)
  repeat (first | (with_reducible first | refine Pw.seq ?_ | refine Pw.region ?_ | refine Pw.nil ?_ | refine Pw.then_ ?_ | refine Pw.skip ?_ | refine Pw.block ?_ | refine Pw.exit ?_ | refine Pw.inX ?_ | refine Pw.inN ?_ | refine Pw.inR ?_ | refine Pw.thenX ?_ | refine Pw.thenR ?_ | refine Pw.ret ?_) | refine Pw.list (Pw.pure rfl rfl rfl ?_) | refine Pw.inY rfl ?_ | refine Pw.list (Pw.off rfl rfl ?_) | refine Pw.condT rfl ?_ | refine Pw.condF rfl ?_)
  refine Pw.split 6 rfl (fun c1 => ?_) (fun c1 => ?_)
  · obtain ⟨v, rfl⟩ : ∃ v, a = [v] := List.length_eq_one_iff.1 (by omega)
    refine Pw.use (p := A.isSome = true) (fun w h => (fact0 h).has (i := 0) (by omega) (by simp)) (fun hA => ?_)
    obtain ⟨ad, rfl⟩ := some_of hA
    repeat (first | (with_reducible first | refine Pw.seq ?_ | refine Pw.region ?_ | refine Pw.nil ?_ | refine Pw.then_ ?_ | refine Pw.skip ?_ | refine Pw.block ?_ | refine Pw.exit ?_ | refine Pw.inX ?_ | refine Pw.inN ?_ | refine Pw.inR ?_ | refine Pw.thenX ?_ | refine Pw.thenR ?_ | refine Pw.ret ?_) | refine Pw.list (Pw.pure rfl rfl rfl ?_) | refine Pw.inY rfl ?_ | refine Pw.list (Pw.off rfl rfl ?_) | refine Pw.condT rfl ?_ | refine Pw.condF rfl ?_)
    refine Pw.list (Pw.indexS rfl rfl rfl rfl (Int.le_refl 0) (by show (0 : Int) < 1; omega) rfl rfl ?_)
    refine Pw.list (Pw.load1 rfl rfl (fun w hs => (fact0 hs.all).cell (i := 0) (Int.le_refl 0) (by show (0 : Int) < 1; omega)) rfl rfl ?_)
    repeat (first | (with_reducible first | refine Pw.seq ?_ | refine Pw.region ?_ | refine Pw.nil ?_ | refine Pw.then_ ?_ | refine Pw.skip ?_ | refine Pw.block ?_ | refine Pw.exit ?_ | refine Pw.inX ?_ | refine Pw.inN ?_ | refine Pw.inR ?_ | refine Pw.thenX ?_ | refine Pw.thenR ?_ | refine Pw.ret ?_) | refine Pw.list (Pw.pure rfl rfl rfl ?_) | refine Pw.inY rfl ?_ | refine Pw.list (Pw.off rfl rfl ?_) | refine Pw.condT rfl ?_ | refine Pw.condF rfl ?_)
    exact Pw.ret_ (x := ()) (.tmp rfl .nil) (congrArg Value.bool (decide_eq_decide.2 (by rw [show val [v] = v by simp [val]]; rfl))) trivial (fun w h => by trivial)
  · have hne : val a ≠ 1 := fun e => c1 (by rw [ha.natL, e, natL_one]; rfl)
    repeat (first | (with_reducible first | refine Pw.seq ?_ | refine Pw.region ?_ | refine Pw.nil ?_ | refine Pw.then_ ?_ | refine Pw.skip ?_ | refine Pw.block ?_ | refine Pw.exit ?_ | refine Pw.inX ?_ | refine Pw.inN ?_ | refine Pw.inR ?_ | refine Pw.thenX ?_ | refine Pw.thenR ?_ | refine Pw.ret ?_) | refine Pw.list (Pw.pure rfl rfl rfl ?_) | refine Pw.inY rfl ?_ | refine Pw.list (Pw.off rfl rfl ?_) | refine Pw.condT rfl ?_ | refine Pw.condF rfl ?_)
    exact Pw.ret_ (x := ()) (.tmp rfl .nil) (by rw [decide_eq_false hne]; rfl) trivial (fun w h => by trivial)
theorem rat_Formed_ct (a b : List Int) (z : Z2) (ha : Lm a) (hb : Lm b) (hl : a.length < 1048576) (hl' : b.length < 1048576) :
    Ct Try.prog 17 #[rt a b z] (R2 a b z) (fun _ : Unit => .bool (formedR a b)) Tt (fun _ _ => True) := by
  have hc := Gcd_ct a b z.1 z.2 ha hb hl hl'
  refine Ct.start Try.func17 rfl rfl (slots_of rfl slots1) (fun D w0 => ?_)
  unfold formedR
  by_cases h : fmB a = true ∧ fmB b = true
  · have eg : gcdS a b = (natL (gcdI (val a) (val b)), 0) := if_pos h
    rw [eg] at hc
    rw [h.1, h.2]
    repeat (first | (with_reducible first | refine Pw.seq ?_ | refine Pw.region ?_ | refine Pw.nil ?_ | refine Pw.then_ ?_ | refine Pw.skip ?_ | refine Pw.block ?_ | refine Pw.exit ?_ | refine Pw.inX ?_ | refine Pw.inN ?_ | refine Pw.inR ?_ | refine Pw.thenX ?_ | refine Pw.thenR ?_ | refine Pw.ret ?_) | refine Pw.list (Pw.pure rfl rfl rfl ?_) | refine Pw.inY rfl ?_ | refine Pw.list (Pw.off rfl rfl ?_) | refine Pw.condT rfl ?_ | refine Pw.condF rfl ?_ | refine Pw.list (Pw.box rfl rfl rfl rfl (fun _ => ?_)) | refine Pw.list (Pw.alloc rfl rfl rfl rfl rfl (fun _ => ?_)) | refine Pw.list (Pw.build rfl rfl rfl rfl ?_) | refine Pw.list (Pw.ld rfl inferInstance rfl rfl rfl ?_) | refine Pw.list (Pw.sto rfl rfl inferInstance rfl rfl rfl rfl rfl inferInstance rfl ?_))
    refine Pw.list (Pw.call hc rfl rfl rfl (by kernel_rfl) rfl rfl (fun w h => fact0 h) ?_)
    intro zg _
    repeat (first | (with_reducible first | refine Pw.seq ?_ | refine Pw.region ?_ | refine Pw.nil ?_ | refine Pw.then_ ?_ | refine Pw.skip ?_ | refine Pw.block ?_ | refine Pw.exit ?_ | refine Pw.inX ?_ | refine Pw.inN ?_ | refine Pw.inR ?_ | refine Pw.thenX ?_ | refine Pw.thenR ?_ | refine Pw.ret ?_) | refine Pw.list (Pw.pure rfl rfl rfl ?_) | refine Pw.inY rfl ?_ | refine Pw.list (Pw.off rfl rfl ?_) | refine Pw.condT rfl ?_ | refine Pw.condF rfl ?_ | refine Pw.list (Pw.box rfl rfl rfl rfl (fun _ => ?_)) | refine Pw.list (Pw.alloc rfl rfl rfl rfl rfl (fun _ => ?_)) | refine Pw.list (Pw.build rfl rfl rfl rfl ?_) | refine Pw.list (Pw.ld rfl inferInstance rfl rfl rfl ?_) | refine Pw.list (Pw.sto rfl rfl inferInstance rfl rfl rfl rfl rfl inferInstance rfl ?_))
    refine Pw.split 21 rfl (fun c1 => ?_) (fun c1 => ?_)
    · repeat (first | (with_reducible first | refine Pw.seq ?_ | refine Pw.region ?_ | refine Pw.nil ?_ | refine Pw.then_ ?_ | refine Pw.skip ?_ | refine Pw.block ?_ | refine Pw.exit ?_ | refine Pw.inX ?_ | refine Pw.inN ?_ | refine Pw.inR ?_ | refine Pw.thenX ?_ | refine Pw.thenR ?_ | refine Pw.ret ?_) | refine Pw.list (Pw.pure rfl rfl rfl ?_) | refine Pw.inY rfl ?_ | refine Pw.list (Pw.off rfl rfl ?_) | refine Pw.condT rfl ?_ | refine Pw.condF rfl ?_ | refine Pw.list (Pw.box rfl rfl rfl rfl (fun _ => ?_)) | refine Pw.list (Pw.alloc rfl rfl rfl rfl rfl (fun _ => ?_)) | refine Pw.list (Pw.build rfl rfl rfl rfl ?_) | refine Pw.list (Pw.ld rfl inferInstance rfl rfl rfl ?_) | refine Pw.list (Pw.sto rfl rfl inferInstance rfl rfl rfl rfl rfl inferInstance rfl ?_))
      have ho := one_ct (natL (gcdI (val a) (val b))) zg (natL_fm _)
      rw [val_natL (gcdI_nonneg _ _)] at ho
      refine Pw.list (Pw.call ho rfl rfl rfl (by kernel_rfl) rfl rfl (fun w h => fact0 h) ?_)
      intro _ _
      repeat (first | (with_reducible first | refine Pw.seq ?_ | refine Pw.region ?_ | refine Pw.nil ?_ | refine Pw.then_ ?_ | refine Pw.skip ?_ | refine Pw.block ?_ | refine Pw.exit ?_ | refine Pw.inX ?_ | refine Pw.inN ?_ | refine Pw.inR ?_ | refine Pw.thenX ?_ | refine Pw.thenR ?_ | refine Pw.ret ?_) | refine Pw.list (Pw.pure rfl rfl rfl ?_) | refine Pw.inY rfl ?_ | refine Pw.list (Pw.off rfl rfl ?_) | refine Pw.condT rfl ?_ | refine Pw.condF rfl ?_ | refine Pw.list (Pw.box rfl rfl rfl rfl (fun _ => ?_)) | refine Pw.list (Pw.alloc rfl rfl rfl rfl rfl (fun _ => ?_)) | refine Pw.list (Pw.build rfl rfl rfl rfl ?_) | refine Pw.list (Pw.ld rfl inferInstance rfl rfl rfl ?_) | refine Pw.list (Pw.sto rfl rfl inferInstance rfl rfl rfl rfl rfl inferInstance rfl ?_))
      have h0 : 0 < b.length := by omega
      exact Pw.ret_ (x := ()) (.tmp rfl .nil) (by rw [decide_eq_true h0]; rfl) trivial (fun w h => by trivial)
    · repeat (first | (with_reducible first | refine Pw.seq ?_ | refine Pw.region ?_ | refine Pw.nil ?_ | refine Pw.then_ ?_ | refine Pw.skip ?_ | refine Pw.block ?_ | refine Pw.exit ?_ | refine Pw.inX ?_ | refine Pw.inN ?_ | refine Pw.inR ?_ | refine Pw.thenX ?_ | refine Pw.thenR ?_ | refine Pw.ret ?_) | refine Pw.list (Pw.pure rfl rfl rfl ?_) | refine Pw.inY rfl ?_ | refine Pw.list (Pw.off rfl rfl ?_) | refine Pw.condT rfl ?_ | refine Pw.condF rfl ?_ | refine Pw.list (Pw.box rfl rfl rfl rfl (fun _ => ?_)) | refine Pw.list (Pw.alloc rfl rfl rfl rfl rfl (fun _ => ?_)) | refine Pw.list (Pw.build rfl rfl rfl rfl ?_) | refine Pw.list (Pw.ld rfl inferInstance rfl rfl rfl ?_) | refine Pw.list (Pw.sto rfl rfl inferInstance rfl rfl rfl rfl rfl inferInstance rfl ?_))
      have h0 : ¬ 0 < b.length := by omega
      exact Pw.ret_ (x := ()) (.tmp rfl .nil) (by rw [decide_eq_false h0]; rfl) trivial (fun w h => by trivial)
  · have eg : gcdS a b = ([], 1) := if_neg h
    rw [eg] at hc
    have e1 : (fmB a && (fmB b && (decide (0 < b.length) && decide (gcdI (val a) (val b) = 1)))) = false := by
      cases e1 : fmB a <;> cases e2 : fmB b <;> simp_all
    rw [e1]
    repeat (first | (with_reducible first | refine Pw.seq ?_ | refine Pw.region ?_ | refine Pw.nil ?_ | refine Pw.then_ ?_ | refine Pw.skip ?_ | refine Pw.block ?_ | refine Pw.exit ?_ | refine Pw.inX ?_ | refine Pw.inN ?_ | refine Pw.inR ?_ | refine Pw.thenX ?_ | refine Pw.thenR ?_ | refine Pw.ret ?_) | refine Pw.list (Pw.pure rfl rfl rfl ?_) | refine Pw.inY rfl ?_ | refine Pw.list (Pw.off rfl rfl ?_) | refine Pw.condT rfl ?_ | refine Pw.condF rfl ?_ | refine Pw.list (Pw.box rfl rfl rfl rfl (fun _ => ?_)) | refine Pw.list (Pw.alloc rfl rfl rfl rfl rfl (fun _ => ?_)) | refine Pw.list (Pw.build rfl rfl rfl rfl ?_) | refine Pw.list (Pw.ld rfl inferInstance rfl rfl rfl ?_) | refine Pw.list (Pw.sto rfl rfl inferInstance rfl rfl rfl rfl rfl inferInstance rfl ?_))
    refine Pw.list (Pw.call hc rfl rfl rfl (by kernel_rfl) rfl rfl (fun w h => fact0 h) ?_)
    intro zg _
    repeat (first | (with_reducible first | refine Pw.seq ?_ | refine Pw.region ?_ | refine Pw.nil ?_ | refine Pw.then_ ?_ | refine Pw.skip ?_ | refine Pw.block ?_ | refine Pw.exit ?_ | refine Pw.inX ?_ | refine Pw.inN ?_ | refine Pw.inR ?_ | refine Pw.thenX ?_ | refine Pw.thenR ?_ | refine Pw.ret ?_) | refine Pw.list (Pw.pure rfl rfl rfl ?_) | refine Pw.inY rfl ?_ | refine Pw.list (Pw.off rfl rfl ?_) | refine Pw.condT rfl ?_ | refine Pw.condF rfl ?_ | refine Pw.list (Pw.box rfl rfl rfl rfl (fun _ => ?_)) | refine Pw.list (Pw.alloc rfl rfl rfl rfl rfl (fun _ => ?_)) | refine Pw.list (Pw.build rfl rfl rfl rfl ?_) | refine Pw.list (Pw.ld rfl inferInstance rfl rfl rfl ?_) | refine Pw.list (Pw.sto rfl rfl inferInstance rfl rfl rfl rfl rfl inferInstance rfl ?_))
    exact Pw.ret_ (x := ()) (.tmp rfl .nil) rfl trivial (fun w h => by trivial)
theorem rat_formed_ct (a b c d : List Int) (y z : Z2) (ha : Lm a) (hb : Lm b) (hc : Lm c) (hd : Lm d) (la : a.length < 1048576) (lb : b.length < 1048576) (lc : c.length < 1048576) (ld : d.length < 1048576) :
    Ct Try.prog 26 #[rt a b y, rt c d z] (fun W => R2 a b y W ∧ R2 c d z W) (fun _ : Unit => .bool (formedR a b && formedR c d)) Tt (fun _ _ => True) := by
  refine Ct.start Try.func26 rfl rfl (slots_of rfl slots2) (fun D w0 => Pw.facts two2 ?_)
  repeat (first | (with_reducible first | refine Pw.seq ?_ | refine Pw.region ?_ | refine Pw.nil ?_ | refine Pw.then_ ?_ | refine Pw.skip ?_ | refine Pw.block ?_ | refine Pw.exit ?_ | refine Pw.inX ?_ | refine Pw.inN ?_ | refine Pw.inR ?_ | refine Pw.thenX ?_ | refine Pw.thenR ?_ | refine Pw.ret ?_) | refine Pw.list (Pw.pure rfl rfl rfl ?_) | refine Pw.inY rfl ?_ | refine Pw.list (Pw.off rfl rfl ?_) | refine Pw.condT rfl ?_ | refine Pw.condF rfl ?_ | refine Pw.list (Pw.box rfl rfl rfl rfl (fun _ => ?_)) | refine Pw.list (Pw.alloc rfl rfl rfl rfl rfl (fun _ => ?_)) | refine Pw.list (Pw.build rfl rfl rfl rfl ?_) | refine Pw.list (Pw.ld rfl inferInstance rfl rfl rfl ?_) | refine Pw.list (Pw.sto rfl rfl inferInstance rfl rfl rfl rfl rfl inferInstance rfl ?_))
  refine Pw.list (Pw.call (rat_Formed_ct a b y ha hb la lb) rfl rfl rfl (by kernel_rfl) rfl rfl (fun w h => fact0 h) ?_)
  intro _ _
  repeat (first | (with_reducible first | refine Pw.seq ?_ | refine Pw.region ?_ | refine Pw.nil ?_ | refine Pw.then_ ?_ | refine Pw.skip ?_ | refine Pw.block ?_ | refine Pw.exit ?_ | refine Pw.inX ?_ | refine Pw.inN ?_ | refine Pw.inR ?_ | refine Pw.thenX ?_ | refine Pw.thenR ?_ | refine Pw.ret ?_) | refine Pw.list (Pw.pure rfl rfl rfl ?_) | refine Pw.inY rfl ?_ | refine Pw.list (Pw.off rfl rfl ?_) | refine Pw.condT rfl ?_ | refine Pw.condF rfl ?_ | refine Pw.list (Pw.box rfl rfl rfl rfl (fun _ => ?_)) | refine Pw.list (Pw.alloc rfl rfl rfl rfl rfl (fun _ => ?_)) | refine Pw.list (Pw.build rfl rfl rfl rfl ?_) | refine Pw.list (Pw.ld rfl inferInstance rfl rfl rfl ?_) | refine Pw.list (Pw.sto rfl rfl inferInstance rfl rfl rfl rfl rfl inferInstance rfl ?_))
  cases formedR a b
  · repeat (first | (with_reducible first | refine Pw.seq ?_ | refine Pw.region ?_ | refine Pw.nil ?_ | refine Pw.then_ ?_ | refine Pw.skip ?_ | refine Pw.block ?_ | refine Pw.exit ?_ | refine Pw.inX ?_ | refine Pw.inN ?_ | refine Pw.inR ?_ | refine Pw.thenX ?_ | refine Pw.thenR ?_ | refine Pw.ret ?_) | refine Pw.list (Pw.pure rfl rfl rfl ?_) | refine Pw.inY rfl ?_ | refine Pw.list (Pw.off rfl rfl ?_) | refine Pw.condT rfl ?_ | refine Pw.condF rfl ?_ | refine Pw.list (Pw.box rfl rfl rfl rfl (fun _ => ?_)) | refine Pw.list (Pw.alloc rfl rfl rfl rfl rfl (fun _ => ?_)) | refine Pw.list (Pw.build rfl rfl rfl rfl ?_) | refine Pw.list (Pw.ld rfl inferInstance rfl rfl rfl ?_) | refine Pw.list (Pw.sto rfl rfl inferInstance rfl rfl rfl rfl rfl inferInstance rfl ?_))
    exact Pw.ret_ (x := ()) (.tmp rfl .nil) rfl trivial (fun w h => by trivial)
  · repeat (first | (with_reducible first | refine Pw.seq ?_ | refine Pw.region ?_ | refine Pw.nil ?_ | refine Pw.then_ ?_ | refine Pw.skip ?_ | refine Pw.block ?_ | refine Pw.exit ?_ | refine Pw.inX ?_ | refine Pw.inN ?_ | refine Pw.inR ?_ | refine Pw.thenX ?_ | refine Pw.thenR ?_ | refine Pw.ret ?_) | refine Pw.list (Pw.pure rfl rfl rfl ?_) | refine Pw.inY rfl ?_ | refine Pw.list (Pw.off rfl rfl ?_) | refine Pw.condT rfl ?_ | refine Pw.condF rfl ?_ | refine Pw.list (Pw.box rfl rfl rfl rfl (fun _ => ?_)) | refine Pw.list (Pw.alloc rfl rfl rfl rfl rfl (fun _ => ?_)) | refine Pw.list (Pw.build rfl rfl rfl rfl ?_) | refine Pw.list (Pw.ld rfl inferInstance rfl rfl rfl ?_) | refine Pw.list (Pw.sto rfl rfl inferInstance rfl rfl rfl rfl rfl inferInstance rfl ?_))
    refine Pw.list (Pw.call (rat_Formed_ct c d z hc hd lc ld) rfl rfl rfl (by kernel_rfl) rfl rfl (fun w h => fact2 h) ?_)
    intro _ _
    repeat (first | (with_reducible first | refine Pw.seq ?_ | refine Pw.region ?_ | refine Pw.nil ?_ | refine Pw.then_ ?_ | refine Pw.skip ?_ | refine Pw.block ?_ | refine Pw.exit ?_ | refine Pw.inX ?_ | refine Pw.inN ?_ | refine Pw.inR ?_ | refine Pw.thenX ?_ | refine Pw.thenR ?_ | refine Pw.ret ?_) | refine Pw.list (Pw.pure rfl rfl rfl ?_) | refine Pw.inY rfl ?_ | refine Pw.list (Pw.off rfl rfl ?_) | refine Pw.condT rfl ?_ | refine Pw.condF rfl ?_ | refine Pw.list (Pw.box rfl rfl rfl rfl (fun _ => ?_)) | refine Pw.list (Pw.alloc rfl rfl rfl rfl rfl (fun _ => ?_)) | refine Pw.list (Pw.build rfl rfl rfl rfl ?_) | refine Pw.list (Pw.ld rfl inferInstance rfl rfl rfl ?_) | refine Pw.list (Pw.sto rfl rfl inferInstance rfl rfl rfl rfl rfl inferInstance rfl ?_))
    exact Pw.ret_ (x := ()) (.tmp rfl .nil) rfl trivial (fun w h => by trivial)
end Go.Proofs.Wk
/- Walks of layer 2: multiplying, dividing, rounding down. -/
namespace Go.Proofs.Wk
open Go.RowKit
set_option maxRecDepth 100000
attribute [local irreducible] Pw OpG
set_option linter.unusedVariables false
set_option linter.unusedSimpArgs false
abbrev mkO (e : Int) : Obj := row [.int .i64 e] 62
theorem mk_mul_ct (a b : List Int) (x y : Option Addr × Nat) (g : Nat) (e : Int) (ha : Lm a) (hb : Lm b) (hl : a.length < 1048576) (hl' : b.length < 1048576) :
    Ct1 Try.prog 27 #[.pointer (some ⟨g, 0, none⟩), sl a x, sl b y] g (mkO e) (fun W => S1 a x W ∧ S1 b y W) (fun z => sl (mulS a b).1 z) Tt (fun _ => mkO (if e = 0 then (mulS a b).2 else e)) (fun z => S1 (mulS a b).1 z) := by
  refine Ct1.start Try.func27 rfl rfl (slots_of rfl slots3) (fun D w0 hD => Pw.facts two2 ?_)
  repeat (first | (with_reducible first | refine Pw.seq ?_ | refine Pw.region ?_ | refine Pw.nil ?_ | refine Pw.then_ ?_ | refine Pw.skip ?_ | refine Pw.block ?_ | refine Pw.exit ?_ | refine Pw.inX ?_ | refine Pw.inN ?_ | refine Pw.inR ?_ | refine Pw.thenX ?_ | refine Pw.thenR ?_ | refine Pw.ret ?_) | refine Pw.list (Pw.pure rfl rfl rfl ?_) | refine Pw.inY rfl ?_ | refine Pw.list (Pw.off rfl rfl ?_) | refine Pw.condT rfl ?_ | refine Pw.condF rfl ?_ | refine Pw.list (Pw.box rfl rfl rfl rfl (fun _ => ?_)) | refine Pw.list (Pw.alloc rfl rfl rfl rfl rfl (fun _ => ?_)) | refine Pw.list (Pw.build rfl rfl rfl rfl ?_) | refine Pw.list (Pw.ld rfl inferInstance rfl rfl rfl ?_) | refine Pw.list (Pw.sto rfl rfl inferInstance rfl rfl rfl rfl rfl inferInstance rfl ?_))
  refine Pw.list (Pw.call (Mul_ct a b x y ha hb hl hl') rfl rfl rfl (by kernel_rfl) rfl rfl (fun w h => ⟨fact0 h, fact1 h⟩) ?_)
  intro z _
  repeat (first | (with_reducible first | refine Pw.seq ?_ | refine Pw.region ?_ | refine Pw.nil ?_ | refine Pw.then_ ?_ | refine Pw.skip ?_ | refine Pw.block ?_ | refine Pw.exit ?_ | refine Pw.inX ?_ | refine Pw.inN ?_ | refine Pw.inR ?_ | refine Pw.thenX ?_ | refine Pw.thenR ?_ | refine Pw.ret ?_) | refine Pw.list (Pw.pure rfl rfl rfl ?_) | refine Pw.inY rfl ?_ | refine Pw.list (Pw.off rfl rfl ?_) | refine Pw.condT rfl ?_ | refine Pw.condF rfl ?_ | refine Pw.list (Pw.box rfl rfl rfl rfl (fun _ => ?_)) | refine Pw.list (Pw.alloc rfl rfl rfl rfl rfl (fun _ => ?_)) | refine Pw.list (Pw.build rfl rfl rfl rfl ?_) | refine Pw.list (Pw.ld rfl inferInstance rfl rfl rfl ?_) | refine Pw.list (Pw.sto rfl rfl inferInstance rfl rfl rfl rfl rfl inferInstance rfl ?_))
  refine Pw.condD rfl (fun c1 => ?_) (fun c1 => ?_)
  · simp only [if_pos c1]
    repeat (first | (with_reducible first | refine Pw.seq ?_ | refine Pw.region ?_ | refine Pw.nil ?_ | refine Pw.then_ ?_ | refine Pw.skip ?_ | refine Pw.block ?_ | refine Pw.exit ?_ | refine Pw.inX ?_ | refine Pw.inN ?_ | refine Pw.inR ?_ | refine Pw.thenX ?_ | refine Pw.thenR ?_ | refine Pw.ret ?_) | refine Pw.list (Pw.pure rfl rfl rfl ?_) | refine Pw.inY rfl ?_ | refine Pw.list (Pw.off rfl rfl ?_) | refine Pw.condT rfl ?_ | refine Pw.condF rfl ?_ | refine Pw.list (Pw.box rfl rfl rfl rfl (fun _ => ?_)) | refine Pw.list (Pw.alloc rfl rfl rfl rfl rfl (fun _ => ?_)) | refine Pw.list (Pw.build rfl rfl rfl rfl ?_) | refine Pw.list (Pw.ld rfl inferInstance rfl rfl rfl ?_) | refine Pw.list (Pw.sto rfl rfl inferInstance rfl rfl rfl rfl rfl inferInstance rfl ?_))
    exact Pw.ret1 (x := z) hD (.head _) (.tmp rfl .nil) rfl trivial (fun w h => fact0 h)
  · simp only [if_neg c1]
    repeat (first | (with_reducible first | refine Pw.seq ?_ | refine Pw.region ?_ | refine Pw.nil ?_ | refine Pw.then_ ?_ | refine Pw.skip ?_ | refine Pw.block ?_ | refine Pw.exit ?_ | refine Pw.inX ?_ | refine Pw.inN ?_ | refine Pw.inR ?_ | refine Pw.thenX ?_ | refine Pw.thenR ?_ | refine Pw.ret ?_) | refine Pw.list (Pw.pure rfl rfl rfl ?_) | refine Pw.inY rfl ?_ | refine Pw.list (Pw.off rfl rfl ?_) | refine Pw.condT rfl ?_ | refine Pw.condF rfl ?_ | refine Pw.list (Pw.box rfl rfl rfl rfl (fun _ => ?_)) | refine Pw.list (Pw.alloc rfl rfl rfl rfl rfl (fun _ => ?_)) | refine Pw.list (Pw.build rfl rfl rfl rfl ?_) | refine Pw.list (Pw.ld rfl inferInstance rfl rfl rfl ?_) | refine Pw.list (Pw.sto rfl rfl inferInstance rfl rfl rfl rfl rfl inferInstance rfl ?_))
    exact Pw.ret1 (x := z) hD (.head _) (.tmp rfl .nil) rfl trivial (fun w h => fact0 h)
theorem mk_mul0_ct (a b : List Int) (x y : Option Addr × Nat) (g : Nat) (ha : Lm a) (hb : Lm b) (hl : a.length < 1048576) (hl' : b.length < 1048576) :
    Ct1 Try.prog 27 #[.pointer (some ⟨g, 0, none⟩), sl a x, sl b y] g (mkO 0) (fun W => S1 a x W ∧ S1 b y W) (fun z => sl (mulS a b).1 z) Tt (fun _ => mkO (mulS a b).2) (fun z => S1 (mulS a b).1 z) := by
  have := mk_mul_ct a b x y g 0 ha hb hl hl'
  rw [if_pos rfl] at this
  exact this
def endS (e e' : Int) (a b : List Int) : List Int × List Int × Int := if e ≠ 0 then ([], [], e) else if e' ≠ 0 then ([], [], e') else makeS a b
theorem mk_end_ct (a b : List Int) (x y : Option Addr × Nat) (g : Nat) (e e' : Int) (ha : Lm a) (hb : Lm b) (hl : a.length < 1048576) (hl' : b.length < 1048576) :
    Ct Try.prog 43 #[.pointer (some ⟨g, 0, none⟩), sl a x, sl b y, .int .i64 e'] (fun W => W.heap[g]? = some (mkO e) ∧ S1 a x W ∧ S1 b y W) (fun z : Z2 => .tuple #[rt (endS e e' a b).1 (endS e e' a b).2.1 z, .int .i64 (endS e e' a b).2.2]) Tt (fun z => R2 (endS e e' a b).1 (endS e e' a b).2.1 z) := by
  refine Ct.start Try.func43 rfl rfl (slots_of rfl slots4) (fun D w0 => Pw.facts (G' := [fun W => W.heap[g]? = some (mkO e), S1 a x, S1 b y]) (fun w h => allCons (fact0 h).1 (allCons (fact0 h).2.1 (allCons (fact0 h).2.2 allNil))) ?_)
  unfold endS
  repeat (first | (with_reducible first | refine Pw.seq ?_ | refine Pw.region ?_ | refine Pw.nil ?_ | refine Pw.then_ ?_ | refine Pw.skip ?_ | refine Pw.block ?_ | refine Pw.exit ?_ | refine Pw.inX ?_ | refine Pw.inN ?_ | refine Pw.inR ?_ | refine Pw.thenX ?_ | refine Pw.thenR ?_ | refine Pw.ret ?_) | refine Pw.list (Pw.pure rfl rfl rfl ?_) | refine Pw.inY rfl ?_ | refine Pw.list (Pw.off rfl rfl ?_) | refine Pw.condT rfl ?_ | refine Pw.condF rfl ?_ | refine Pw.list (Pw.box rfl rfl rfl rfl (fun _ => ?_)) | refine Pw.list (Pw.alloc rfl rfl rfl rfl rfl (fun _ => ?_)) | refine Pw.list (Pw.build rfl rfl rfl rfl ?_) | refine Pw.list (Pw.ld rfl inferInstance rfl rfl rfl ?_) | refine Pw.list (Pw.sto rfl rfl inferInstance rfl rfl rfl rfl rfl inferInstance rfl ?_))
  refine Pw.condD rfl (fun c1 => ?_) (fun c1 => ?_)
  · rw [if_pos c1]
    repeat (first | (with_reducible first | refine Pw.seq ?_ | refine Pw.region ?_ | refine Pw.nil ?_ | refine Pw.then_ ?_ | refine Pw.skip ?_ | refine Pw.block ?_ | refine Pw.exit ?_ | refine Pw.inX ?_ | refine Pw.inN ?_ | refine Pw.inR ?_ | refine Pw.thenX ?_ | refine Pw.thenR ?_ | refine Pw.ret ?_) | refine Pw.list (Pw.pure rfl rfl rfl ?_) | refine Pw.inY rfl ?_ | refine Pw.list (Pw.off rfl rfl ?_) | refine Pw.condT rfl ?_ | refine Pw.condF rfl ?_ | refine Pw.list (Pw.box rfl rfl rfl rfl (fun _ => ?_)) | refine Pw.list (Pw.alloc rfl rfl rfl rfl rfl (fun _ => ?_)) | refine Pw.list (Pw.build rfl rfl rfl rfl ?_) | refine Pw.list (Pw.ld rfl inferInstance rfl rfl rfl ?_) | refine Pw.list (Pw.sto rfl rfl inferInstance rfl rfl rfl rfl rfl inferInstance rfl ?_))
    refine Pw.drawnG mixed rfl rfl ?_
    refine Pw.takeBuild 0 (nb 7 1) rfl rfl rfl rfl rfl (by kernel_rfl) np sf ?_
    refine Pw.takeP 1 (nb 7 3) rfl rfl rfl rfl (by kernel_rfl) np sf ?_
    refine Pw.takeP 2 (nb 7 7) rfl rfl rfl rfl (by kernel_rfl) np sf ?_
    refine Pw.takeP 3 (nb 7 15) rfl rfl rfl rfl (by kernel_rfl) np sf ?_
    refine Pw.takeF 4 (nb 7 31) rfl rfl inferInstance rfl rfl rfl (by kernel_rfl) np sf ?_
    refine Pw.one 5 (nb 7 63) rfl (by kernel_rfl) ?_
    -- eff Op.store 34 (Operand.tmp 8) (Operand.tmp 15)
    refine Pw.storeB rfl rfl .head rfl rfl rfl rfl rfl rfl (Pw.held (fun w h => h.all) ?_)
    refine Pw.takeP 6 (nb 7 127) rfl rfl rfl rfl (by kernel_rfl) np sf ?_
    refine Pw.done (by kernel_rfl) ?_
    repeat (first | (with_reducible first | refine Pw.seq ?_ | refine Pw.region ?_ | refine Pw.nil ?_ | refine Pw.then_ ?_ | refine Pw.skip ?_ | refine Pw.block ?_ | refine Pw.exit ?_ | refine Pw.inX ?_ | refine Pw.inN ?_ | refine Pw.inR ?_ | refine Pw.thenX ?_ | refine Pw.thenR ?_ | refine Pw.ret ?_) | refine Pw.list (Pw.pure rfl rfl rfl ?_) | refine Pw.inY rfl ?_ | refine Pw.list (Pw.off rfl rfl ?_) | refine Pw.condT rfl ?_ | refine Pw.condF rfl ?_)
    exact Pw.ret_ (x := z0) (.cell rfl (fun w hs => hs.own _ (.head _)) rfl (.tmp rfl .nil)) rfl trivial (fun w h => R2.nil w)
  · rw [if_neg c1]
    repeat (first | (with_reducible first | refine Pw.seq ?_ | refine Pw.region ?_ | refine Pw.nil ?_ | refine Pw.then_ ?_ | refine Pw.skip ?_ | refine Pw.block ?_ | refine Pw.exit ?_ | refine Pw.inX ?_ | refine Pw.inN ?_ | refine Pw.inR ?_ | refine Pw.thenX ?_ | refine Pw.thenR ?_ | refine Pw.ret ?_) | refine Pw.list (Pw.pure rfl rfl rfl ?_) | refine Pw.inY rfl ?_ | refine Pw.list (Pw.off rfl rfl ?_) | refine Pw.condT rfl ?_ | refine Pw.condF rfl ?_ | refine Pw.list (Pw.box rfl rfl rfl rfl (fun _ => ?_)) | refine Pw.list (Pw.alloc rfl rfl rfl rfl rfl (fun _ => ?_)) | refine Pw.list (Pw.build rfl rfl rfl rfl ?_) | refine Pw.list (Pw.ld rfl inferInstance rfl rfl rfl ?_) | refine Pw.list (Pw.sto rfl rfl inferInstance rfl rfl rfl rfl rfl inferInstance rfl ?_))
    refine Pw.condD rfl (fun c2 => ?_) (fun c2 => ?_)
    · rw [if_pos c2]
      repeat (first | (with_reducible first | refine Pw.seq ?_ | refine Pw.region ?_ | refine Pw.nil ?_ | refine Pw.then_ ?_ | refine Pw.skip ?_ | refine Pw.block ?_ | refine Pw.exit ?_ | refine Pw.inX ?_ | refine Pw.inN ?_ | refine Pw.inR ?_ | refine Pw.thenX ?_ | refine Pw.thenR ?_ | refine Pw.ret ?_) | refine Pw.list (Pw.pure rfl rfl rfl ?_) | refine Pw.inY rfl ?_ | refine Pw.list (Pw.off rfl rfl ?_) | refine Pw.condT rfl ?_ | refine Pw.condF rfl ?_ | refine Pw.list (Pw.box rfl rfl rfl rfl (fun _ => ?_)) | refine Pw.list (Pw.alloc rfl rfl rfl rfl rfl (fun _ => ?_)) | refine Pw.list (Pw.build rfl rfl rfl rfl ?_) | refine Pw.list (Pw.ld rfl inferInstance rfl rfl rfl ?_) | refine Pw.list (Pw.sto rfl rfl inferInstance rfl rfl rfl rfl rfl inferInstance rfl ?_))
      exact Pw.ret_ (x := z0) (.cell rfl (fun w hs => hs.own _ (.head _)) rfl (.tmp rfl .nil)) rfl trivial (fun w h => R2.nil w)
    · rw [if_neg c2]
      repeat (first | (with_reducible first | refine Pw.seq ?_ | refine Pw.region ?_ | refine Pw.nil ?_ | refine Pw.then_ ?_ | refine Pw.skip ?_ | refine Pw.block ?_ | refine Pw.exit ?_ | refine Pw.inX ?_ | refine Pw.inN ?_ | refine Pw.inR ?_ | refine Pw.thenX ?_ | refine Pw.thenR ?_ | refine Pw.ret ?_) | refine Pw.list (Pw.pure rfl rfl rfl ?_) | refine Pw.inY rfl ?_ | refine Pw.list (Pw.off rfl rfl ?_) | refine Pw.condT rfl ?_ | refine Pw.condF rfl ?_ | refine Pw.list (Pw.box rfl rfl rfl rfl (fun _ => ?_)) | refine Pw.list (Pw.alloc rfl rfl rfl rfl rfl (fun _ => ?_)) | refine Pw.list (Pw.build rfl rfl rfl rfl ?_) | refine Pw.list (Pw.ld rfl inferInstance rfl rfl rfl ?_) | refine Pw.list (Pw.sto rfl rfl inferInstance rfl rfl rfl rfl rfl inferInstance rfl ?_))
      refine Pw.list (Pw.call (Make_ct a b x y ha hb hl hl') rfl rfl rfl (by kernel_rfl) rfl rfl (fun w h => ⟨fact1 h, fact2 h⟩) ?_)
      intro z _
      repeat (first | (with_reducible first | refine Pw.seq ?_ | refine Pw.region ?_ | refine Pw.nil ?_ | refine Pw.then_ ?_ | refine Pw.skip ?_ | refine Pw.block ?_ | refine Pw.exit ?_ | refine Pw.inX ?_ | refine Pw.inN ?_ | refine Pw.inR ?_ | refine Pw.thenX ?_ | refine Pw.thenR ?_ | refine Pw.ret ?_) | refine Pw.list (Pw.pure rfl rfl rfl ?_) | refine Pw.inY rfl ?_ | refine Pw.list (Pw.off rfl rfl ?_) | refine Pw.condT rfl ?_ | refine Pw.condF rfl ?_ | refine Pw.list (Pw.box rfl rfl rfl rfl (fun _ => ?_)) | refine Pw.list (Pw.alloc rfl rfl rfl rfl rfl (fun _ => ?_)) | refine Pw.list (Pw.build rfl rfl rfl rfl ?_) | refine Pw.list (Pw.ld rfl inferInstance rfl rfl rfl ?_) | refine Pw.list (Pw.sto rfl rfl inferInstance rfl rfl rfl rfl rfl inferInstance rfl ?_))
      exact Pw.ret_ (x := z) (.cell rfl (fun w hs => hs.own _ (.head _)) rfl (.tmp rfl .nil)) rfl trivial (fun w h => fact0 h)
/-- The product of two fractions, as layer 2 makes it. -/
def rmulS (a b c d : List Int) : List Int × List Int × Int := if (formedR a b && formedR c d) = true then endS (if (mulS a c).2 = 0 then (mulS b d).2 else (mulS a c).2) 0 (mulS a c).1 (mulS b d).1 else ([], [], 1)
theorem mulS_lm {a b : List Int} : Fm (mulS a b).1 ∧ (mulS a b).1.length ≤ 400 := by
  unfold mulS
  split
  · unfold fitN
    split
    next h => exact ⟨natL_fm _, h⟩
    next h => exact ⟨by rw [← natL_zero]; exact natL_fm 0, by simp⟩
  · exact ⟨by rw [← natL_zero]; exact natL_fm 0, by simp⟩
theorem rat_Mul_ct (a b c d : List Int) (y z : Z2) (ha : Lm a) (hb : Lm b) (hc : Lm c) (hd : Lm d) (la : a.length < 1048576) (lb : b.length < 1048576) (lc : c.length < 1048576) (ld : d.length < 1048576) :
    Ct Try.prog 57 #[rt a b y, rt c d z] (fun W => R2 a b y W ∧ R2 c d z W) (fun x : Z2 => .tuple #[rt (rmulS a b c d).1 (rmulS a b c d).2.1 x, .int .i64 (rmulS a b c d).2.2]) Tt (fun x => R2 (rmulS a b c d).1 (rmulS a b c d).2.1 x) := by
  refine Ct.start Try.func57 rfl rfl (slots_of rfl slots2) (fun D w0 => Pw.facts two2 ?_)
  unfold rmulS
  repeat (first | (with_reducible first | refine Pw.seq ?_ | refine Pw.region ?_ | refine Pw.nil ?_ | refine Pw.then_ ?_ | refine Pw.skip ?_ | refine Pw.block ?_ | refine Pw.exit ?_ | refine Pw.inX ?_ | refine Pw.inN ?_ | refine Pw.inR ?_ | refine Pw.thenX ?_ | refine Pw.thenR ?_ | refine Pw.ret ?_) | refine Pw.list (Pw.pure rfl rfl rfl ?_) | refine Pw.inY rfl ?_ | refine Pw.list (Pw.off rfl rfl ?_) | refine Pw.condT rfl ?_ | refine Pw.condF rfl ?_ | refine Pw.list (Pw.box rfl rfl rfl rfl (fun _ => freeHead ?_)) | refine Pw.list (Pw.alloc rfl rfl rfl rfl rfl (fun _ => ?_)) | refine Pw.list (Pw.build rfl rfl rfl rfl ?_) | refine Pw.list (Pw.ld rfl inferInstance rfl rfl rfl ?_) | refine Pw.list (Pw.sto rfl rfl inferInstance rfl rfl rfl rfl rfl inferInstance rfl ?_))
  refine Pw.list (Pw.call (rat_formed_ct a b c d y z ha hb hc hd la lb lc ld) rfl rfl rfl (by kernel_rfl) rfl rfl (fun w h => ⟨(hv w h), (hv w h)⟩) ?_)
  intro _ _
  generalize (formedR a b && formedR c d) = t
  cases t
  · rw [if_neg (by simp)]
    repeat (first | (with_reducible first | refine Pw.seq ?_ | refine Pw.region ?_ | refine Pw.nil ?_ | refine Pw.then_ ?_ | refine Pw.skip ?_ | refine Pw.block ?_ | refine Pw.exit ?_ | refine Pw.inX ?_ | refine Pw.inN ?_ | refine Pw.inR ?_ | refine Pw.thenX ?_ | refine Pw.thenR ?_ | refine Pw.ret ?_) | refine Pw.list (Pw.pure rfl rfl rfl ?_) | refine Pw.inY rfl ?_ | refine Pw.list (Pw.off rfl rfl ?_) | refine Pw.condT rfl ?_ | refine Pw.condF rfl ?_ | refine Pw.list (Pw.box rfl rfl rfl rfl (fun _ => freeHead ?_)) | refine Pw.list (Pw.alloc rfl rfl rfl rfl rfl (fun _ => ?_)) | refine Pw.list (Pw.build rfl rfl rfl rfl ?_) | refine Pw.list (Pw.ld rfl inferInstance rfl rfl rfl ?_) | refine Pw.list (Pw.sto rfl rfl inferInstance rfl rfl rfl rfl rfl inferInstance rfl ?_))
    exact Pw.ret_ (x := z0) (.cell rfl (fun w hs => hs.own _ (.head _)) rfl (.tmp rfl .nil)) rfl trivial (fun w h => R2.nil w)
  rw [if_pos rfl]
  have m1 := @mulS_lm a c
  have m2 := @mulS_lm b d
  repeat (first | (with_reducible first | refine Pw.seq ?_ | refine Pw.region ?_ | refine Pw.nil ?_ | refine Pw.then_ ?_ | refine Pw.skip ?_ | refine Pw.block ?_ | refine Pw.exit ?_ | refine Pw.inX ?_ | refine Pw.inN ?_ | refine Pw.inR ?_ | refine Pw.thenX ?_ | refine Pw.thenR ?_ | refine Pw.ret ?_) | refine Pw.list (Pw.pure rfl rfl rfl ?_) | refine Pw.inY rfl ?_ | refine Pw.list (Pw.off rfl rfl ?_) | refine Pw.condT rfl ?_ | refine Pw.condF rfl ?_ | refine Pw.list (Pw.box rfl rfl rfl rfl (fun _ => ?_)) | refine Pw.list (Pw.alloc rfl rfl rfl rfl rfl (fun _ => ?_)) | refine Pw.list (Pw.build rfl rfl rfl rfl ?_) | refine Pw.list (Pw.ld rfl inferInstance rfl rfl rfl ?_) | refine Pw.list (Pw.sto rfl rfl inferInstance rfl rfl rfl rfl rfl inferInstance rfl ?_))
  refine Pw.drawnG mixed rfl rfl ?_
  refine Pw.takeP 0 (nb 18 1) rfl rfl rfl rfl (by kernel_rfl) np sf ?_
  refine Pw.takeP 1 (nb 18 3) rfl rfl rfl rfl (by kernel_rfl) np sf ?_
  refine Pw.takeP 2 (nb 18 7) rfl rfl rfl rfl (by kernel_rfl) np sf ?_
  refine Pw.takeF 3 (nb 18 15) rfl rfl inferInstance rfl rfl rfl (by kernel_rfl) np sf ?_
  refine Pw.takeP 4 (nb 18 31) rfl rfl rfl rfl (by kernel_rfl) np sf ?_
  refine Pw.takeF 5 (nb 18 63) rfl rfl inferInstance rfl rfl rfl (by kernel_rfl) np sf ?_
  refine Pw.takeP 7 (nb 18 191) rfl rfl rfl rfl (by kernel_rfl) np sf ?_
  refine Pw.takeP 8 (nb 18 447) rfl rfl rfl rfl (by kernel_rfl) np sf ?_
  refine Pw.takeF 9 (nb 18 959) rfl rfl inferInstance rfl rfl rfl (by kernel_rfl) np sf ?_
  refine Pw.takeP 10 (nb 18 1983) rfl rfl rfl rfl (by kernel_rfl) np sf ?_
  refine Pw.takeF 11 (nb 18 4031) rfl rfl inferInstance rfl rfl rfl (by kernel_rfl) np sf ?_
  refine Pw.one 6 (nb 18 4095) rfl (by kernel_rfl) ?_
  -- call Op.call { callee := Callee.value (Operand.func 27), args := #[Operand.tmp 15, Operand.tmp 17, Operand.tmp 19], argTypes := #[60, 32, 32] }
  refine Pw.call1 (mk_mul0_ct a c y.1 z.1 _ ha hc la lc) rfl rfl rfl (by kernel_rfl) rfl rfl (fun w h => ⟨(by first | exact (fact1 h).1 | exact (fact2 h).1 | exact (fact3 h).1), (by first | exact (fact1 h).1 | exact (fact2 h).1 | exact (fact3 h).1 | exact (fact3 (allTail h)).1)⟩) (.head _) (fun _ => .head) ?_
  intro x1 _
  refine Pw.held (fun w h => allTail h.all) ?_
  refine Pw.one 12 (nb 18 8191) rfl (by kernel_rfl) ?_
  -- call Op.call { callee := Callee.value (Operand.func 27), args := #[Operand.tmp 21, Operand.tmp 23, Operand.tmp 25], argTypes := #[60, 32, 32] }
  refine Pw.call1 (mk_mul_ct b d y.2 z.2 _ _ hb hd lb ld) rfl rfl rfl (by kernel_rfl) rfl rfl (fun w h => ⟨(by first | exact (fact1 h).2 | exact (fact2 h).2 | exact (fact3 h).2 | exact (fact3 (allTail h)).2), (by first | exact (fact1 h).2 | exact (fact2 h).2 | exact (fact3 h).2 | exact (fact3 (allTail h)).2 | exact (fact3 (allTail (allTail h))).2)⟩) (.head _) (fun _ => .head) ?_
  intro x2 _
  refine Pw.held (fun w h => allTail (allTail h.all)) (freeHead ?_)
  refine Pw.one 13 (nb 18 16383) rfl (by kernel_rfl) ?_
  -- call Op.call { callee := Callee.value (Operand.func 43), args := #[Operand.tmp 14, Operand.tmp 20, Operand.tmp 26, Operand.const (Value.int IntKind.i64 0)]
  refine Pw.call (mk_end_ct (mulS a c).1 (mulS b d).1 x1 x2 _ _ 0 m1.1.1 m2.1.1 (by omega) (by omega)) rfl rfl rfl (by kernel_rfl) rfl rfl (fun w h => ⟨fact0 h, fact2 h, fact1 h⟩) ?_
  intro x3 _
  refine Pw.held (fun w h => allTail (allTail (allTail (allTail h.all)))) ?_
  refine Pw.takeP 14 (nb 18 32767) rfl rfl rfl rfl (by kernel_rfl) np sf ?_
  refine Pw.takeP 15 (nb 18 65535) rfl rfl rfl rfl (by kernel_rfl) np sf ?_
  refine Pw.one 16 (nb 18 131071) rfl (by kernel_rfl) ?_
  -- eff Op.store 34 (Operand.tmp 4) (Operand.tmp 28)
  refine Pw.storeB rfl rfl .head rfl rfl rfl rfl rfl rfl (Pw.held sf ?_)
  refine Pw.takeP 17 (nb 18 262143) rfl rfl rfl rfl (by kernel_rfl) np sf ?_
  refine Pw.done (by kernel_rfl) ?_
  repeat (first | (with_reducible first | refine Pw.seq ?_ | refine Pw.region ?_ | refine Pw.nil ?_ | refine Pw.then_ ?_ | refine Pw.skip ?_ | refine Pw.block ?_ | refine Pw.exit ?_ | refine Pw.inX ?_ | refine Pw.inN ?_ | refine Pw.inR ?_ | refine Pw.thenX ?_ | refine Pw.thenR ?_ | refine Pw.ret ?_) | refine Pw.list (Pw.pure rfl rfl rfl ?_) | refine Pw.inY rfl ?_ | refine Pw.list (Pw.off rfl rfl ?_) | refine Pw.condT rfl ?_ | refine Pw.condF rfl ?_)
  exact Pw.ret_ (x := x3) (.cell rfl (fun w hs => hs.own _ (.head _)) rfl (.tmp rfl .nil)) rfl trivial (fun w h => fact0 h)
end Go.Proofs.Wk
/- Walks of layer 2: dividing, rounding down, comparing. -/
namespace Go.Proofs.Wk
open Go.RowKit
set_option maxRecDepth 100000
attribute [local irreducible] Pw OpG
set_option linter.unusedVariables false
set_option linter.unusedSimpArgs false
def rdivS (a b c d : List Int) : List Int × List Int × Int := if (formedR a b && formedR c d) = true then (if c.length = 0 then ([], [], 5) else rmulS a b d c) else ([], [], 1)
theorem rat_Div_ct (a b c d : List Int) (y z : Z2) (ha : Lm a) (hb : Lm b) (hc : Lm c) (hd : Lm d) (la : a.length < 1048576) (lb : b.length < 1048576) (lc : c.length < 1048576) (ld : d.length < 1048576) :
    Ct Try.prog 39 #[rt a b y, rt c d z] (fun W => R2 a b y W ∧ R2 c d z W) (fun x : Z2 => .tuple #[rt (rdivS a b c d).1 (rdivS a b c d).2.1 x, .int .i64 (rdivS a b c d).2.2]) Tt (fun x => R2 (rdivS a b c d).1 (rdivS a b c d).2.1 x) := by
  refine Ct.start Try.func39 rfl rfl (slots_of rfl slots2) (fun D w0 => Pw.facts two2 ?_)
  unfold rdivS
  repeat (first | (with_reducible first | refine Pw.seq ?_ | refine Pw.region ?_ | refine Pw.nil ?_ | refine Pw.then_ ?_ | refine Pw.skip ?_ | refine Pw.block ?_ | refine Pw.exit ?_ | refine Pw.inX ?_ | refine Pw.inN ?_ | refine Pw.inR ?_ | refine Pw.thenX ?_ | refine Pw.thenR ?_ | refine Pw.ret ?_) | refine Pw.list (Pw.pure rfl rfl rfl ?_) | refine Pw.inY rfl ?_ | refine Pw.list (Pw.off rfl rfl ?_) | refine Pw.condT rfl ?_ | refine Pw.condF rfl ?_ | refine Pw.list (Pw.box rfl rfl rfl rfl (fun _ => freeHead ?_)) | refine Pw.list (Pw.alloc rfl rfl rfl rfl rfl (fun _ => ?_)) | refine Pw.list (Pw.build rfl rfl rfl rfl ?_) | refine Pw.list (Pw.ld rfl inferInstance rfl rfl rfl ?_) | refine Pw.list (Pw.sto rfl rfl inferInstance rfl rfl rfl rfl rfl inferInstance rfl ?_))
  refine Pw.list (Pw.call (rat_formed_ct a b c d y z ha hb hc hd la lb lc ld) rfl rfl rfl (by kernel_rfl) rfl rfl (fun w h => ⟨(hv w h), (hv w h)⟩) ?_)
  intro _ _
  generalize (formedR a b && formedR c d) = t
  cases t
  · rw [if_neg (by simp)]
    repeat (first | (with_reducible first | refine Pw.seq ?_ | refine Pw.region ?_ | refine Pw.nil ?_ | refine Pw.then_ ?_ | refine Pw.skip ?_ | refine Pw.block ?_ | refine Pw.exit ?_ | refine Pw.inX ?_ | refine Pw.inN ?_ | refine Pw.inR ?_ | refine Pw.thenX ?_ | refine Pw.thenR ?_ | refine Pw.ret ?_) | refine Pw.list (Pw.pure rfl rfl rfl ?_) | refine Pw.inY rfl ?_ | refine Pw.list (Pw.off rfl rfl ?_) | refine Pw.condT rfl ?_ | refine Pw.condF rfl ?_ | refine Pw.list (Pw.box rfl rfl rfl rfl (fun _ => ?_)) | refine Pw.list (Pw.alloc rfl rfl rfl rfl rfl (fun _ => ?_)) | refine Pw.list (Pw.build rfl rfl rfl rfl ?_) | refine Pw.list (Pw.ld rfl inferInstance rfl rfl rfl ?_) | refine Pw.list (Pw.sto rfl rfl inferInstance rfl rfl rfl rfl rfl inferInstance rfl ?_))
    exact Pw.ret_ (x := z0) (.cell rfl (fun w hs => hs.own _ (.head _)) rfl (.tmp rfl .nil)) rfl trivial (fun w h => R2.nil w)
  rw [if_pos rfl]
  repeat (first | (with_reducible first | refine Pw.seq ?_ | refine Pw.region ?_ | refine Pw.nil ?_ | refine Pw.then_ ?_ | refine Pw.skip ?_ | refine Pw.block ?_ | refine Pw.exit ?_ | refine Pw.inX ?_ | refine Pw.inN ?_ | refine Pw.inR ?_ | refine Pw.thenX ?_ | refine Pw.thenR ?_ | refine Pw.ret ?_) | refine Pw.list (Pw.pure rfl rfl rfl ?_) | refine Pw.inY rfl ?_ | refine Pw.list (Pw.off rfl rfl ?_) | refine Pw.condT rfl ?_ | refine Pw.condF rfl ?_ | refine Pw.list (Pw.box rfl rfl rfl rfl (fun _ => ?_)) | refine Pw.list (Pw.alloc rfl rfl rfl rfl rfl (fun _ => ?_)) | refine Pw.list (Pw.build rfl rfl rfl rfl ?_) | refine Pw.list (Pw.ld rfl inferInstance rfl rfl rfl ?_) | refine Pw.list (Pw.sto rfl rfl inferInstance rfl rfl rfl rfl rfl inferInstance rfl ?_))
  refine Pw.condD rfl (fun c1 => ?_) (fun c1 => ?_)
  · rw [if_pos (by omega)]
    repeat (first | (with_reducible first | refine Pw.seq ?_ | refine Pw.region ?_ | refine Pw.nil ?_ | refine Pw.then_ ?_ | refine Pw.skip ?_ | refine Pw.block ?_ | refine Pw.exit ?_ | refine Pw.inX ?_ | refine Pw.inN ?_ | refine Pw.inR ?_ | refine Pw.thenX ?_ | refine Pw.thenR ?_ | refine Pw.ret ?_) | refine Pw.list (Pw.pure rfl rfl rfl ?_) | refine Pw.inY rfl ?_ | refine Pw.list (Pw.off rfl rfl ?_) | refine Pw.condT rfl ?_ | refine Pw.condF rfl ?_ | refine Pw.list (Pw.box rfl rfl rfl rfl (fun _ => ?_)) | refine Pw.list (Pw.alloc rfl rfl rfl rfl rfl (fun _ => ?_)) | refine Pw.list (Pw.build rfl rfl rfl rfl ?_) | refine Pw.list (Pw.ld rfl inferInstance rfl rfl rfl ?_) | refine Pw.list (Pw.sto rfl rfl inferInstance rfl rfl rfl rfl rfl inferInstance rfl ?_))
    exact Pw.ret_ (x := z0) (.cell rfl (fun w hs => hs.own _ (.head _)) rfl (.tmp rfl .nil)) rfl trivial (fun w h => R2.nil w)
  · rw [if_neg (by omega)]
    repeat (first | (with_reducible first | refine Pw.seq ?_ | refine Pw.region ?_ | refine Pw.nil ?_ | refine Pw.then_ ?_ | refine Pw.skip ?_ | refine Pw.block ?_ | refine Pw.exit ?_ | refine Pw.inX ?_ | refine Pw.inN ?_ | refine Pw.inR ?_ | refine Pw.thenX ?_ | refine Pw.thenR ?_ | refine Pw.ret ?_) | refine Pw.list (Pw.pure rfl rfl rfl ?_) | refine Pw.inY rfl ?_ | refine Pw.list (Pw.off rfl rfl ?_) | refine Pw.condT rfl ?_ | refine Pw.condF rfl ?_ | refine Pw.list (Pw.box rfl rfl rfl rfl (fun _ => ?_)) | refine Pw.list (Pw.alloc rfl rfl rfl rfl rfl (fun _ => ?_)) | refine Pw.list (Pw.build rfl rfl rfl rfl ?_) | refine Pw.list (Pw.ld rfl inferInstance rfl rfl rfl ?_) | refine Pw.list (Pw.sto rfl rfl inferInstance rfl rfl rfl rfl rfl inferInstance rfl ?_))
    refine Pw.list (Pw.call (rat_Mul_ct a b d c y (z.2, z.1) ha hb hd hc la lb ld lc) rfl rfl rfl (by kernel_rfl) rfl rfl (fun w h => ⟨(hv w h), (by first | exact (fact0 h).symm | exact (fact1 h).symm | exact (fact2 h).symm | exact (fact3 h).symm | exact (fact3 (allTail h)).symm)⟩) ?_)
    intro x _
    repeat (first | (with_reducible first | refine Pw.seq ?_ | refine Pw.region ?_ | refine Pw.nil ?_ | refine Pw.then_ ?_ | refine Pw.skip ?_ | refine Pw.block ?_ | refine Pw.exit ?_ | refine Pw.inX ?_ | refine Pw.inN ?_ | refine Pw.inR ?_ | refine Pw.thenX ?_ | refine Pw.thenR ?_ | refine Pw.ret ?_) | refine Pw.list (Pw.pure rfl rfl rfl ?_) | refine Pw.inY rfl ?_ | refine Pw.list (Pw.off rfl rfl ?_) | refine Pw.condT rfl ?_ | refine Pw.condF rfl ?_ | refine Pw.list (Pw.box rfl rfl rfl rfl (fun _ => ?_)) | refine Pw.list (Pw.alloc rfl rfl rfl rfl rfl (fun _ => ?_)) | refine Pw.list (Pw.build rfl rfl rfl rfl ?_) | refine Pw.list (Pw.ld rfl inferInstance rfl rfl rfl ?_) | refine Pw.list (Pw.sto rfl rfl inferInstance rfl rfl rfl rfl rfl inferInstance rfl ?_))
    exact Pw.ret_ (x := x) (.cell rfl (fun w hs => hs.own _ (.head _)) rfl (.tmp rfl .nil)) rfl trivial (fun w h => fact0 h)
theorem formedR_spec {a b : List Int} (ha : Lm a) (hb : Lm b) (h : formedR a b = true) : fmB a = true ∧ fmB b = true ∧ 0 < b.length ∧ gcdI (val a) (val b) = 1 := by
  unfold formedR at h
  simpa using h
def rcmpS (a b c d : List Int) : Int := if (formedR a b && formedR c d) = true then (if (if (mulS a d).2 = 0 then (mulS c b).2 else (mulS a d).2) ≠ 0 then 0 else cmpF (mulS a d).1 (mulS c b).1) else 0
theorem rat_Cmp_ct (a b c d : List Int) (y z : Z2) (ha : Lm a) (hb : Lm b) (hc : Lm c) (hd : Lm d) (la : a.length < 1048576) (lb : b.length < 1048576) (lc : c.length < 1048576) (ld : d.length < 1048576) :
    Ct Try.prog 11 #[rt a b y, rt c d z] (fun W => R2 a b y W ∧ R2 c d z W) (fun _ : Unit => .int .i64 (rcmpS a b c d)) Tt (fun _ _ => True) := by
  refine Ct.start Try.func11 rfl rfl (slots_of rfl slots2) (fun D w0 => Pw.facts two2 ?_)
  unfold rcmpS
  repeat (first | (with_reducible first | refine Pw.seq ?_ | refine Pw.region ?_ | refine Pw.nil ?_ | refine Pw.then_ ?_ | refine Pw.skip ?_ | refine Pw.block ?_ | refine Pw.exit ?_ | refine Pw.inX ?_ | refine Pw.inN ?_ | refine Pw.inR ?_ | refine Pw.thenX ?_ | refine Pw.thenR ?_ | refine Pw.ret ?_) | refine Pw.list (Pw.pure rfl rfl rfl ?_) | refine Pw.inY rfl ?_ | refine Pw.list (Pw.off rfl rfl ?_) | refine Pw.condT rfl ?_ | refine Pw.condF rfl ?_ | refine Pw.list (Pw.box rfl rfl rfl rfl (fun _ => freeHead ?_)) | refine Pw.list (Pw.alloc rfl rfl rfl rfl rfl (fun _ => ?_)) | refine Pw.list (Pw.build rfl rfl rfl rfl ?_) | refine Pw.list (Pw.ld rfl inferInstance rfl rfl rfl ?_) | refine Pw.list (Pw.sto rfl rfl inferInstance rfl rfl rfl rfl rfl inferInstance rfl ?_))
  refine Pw.list (Pw.call (rat_formed_ct a b c d y z ha hb hc hd la lb lc ld) rfl rfl rfl (by kernel_rfl) rfl rfl (fun w h => ⟨(hv w h), (hv w h)⟩) ?_)
  intro _ _
  generalize (formedR a b && formedR c d) = t
  cases t
  · rw [if_neg (by simp)]
    repeat (first | (with_reducible first | refine Pw.seq ?_ | refine Pw.region ?_ | refine Pw.nil ?_ | refine Pw.then_ ?_ | refine Pw.skip ?_ | refine Pw.block ?_ | refine Pw.exit ?_ | refine Pw.inX ?_ | refine Pw.inN ?_ | refine Pw.inR ?_ | refine Pw.thenX ?_ | refine Pw.thenR ?_ | refine Pw.ret ?_) | refine Pw.list (Pw.pure rfl rfl rfl ?_) | refine Pw.inY rfl ?_ | refine Pw.list (Pw.off rfl rfl ?_) | refine Pw.condT rfl ?_ | refine Pw.condF rfl ?_ | refine Pw.list (Pw.box rfl rfl rfl rfl (fun _ => ?_)) | refine Pw.list (Pw.alloc rfl rfl rfl rfl rfl (fun _ => ?_)) | refine Pw.list (Pw.build rfl rfl rfl rfl ?_) | refine Pw.list (Pw.ld rfl inferInstance rfl rfl rfl ?_) | refine Pw.list (Pw.sto rfl rfl inferInstance rfl rfl rfl rfl rfl inferInstance rfl ?_))
    exact Pw.ret_ (x := ()) (.tmp rfl .nil) rfl trivial (fun w h => by trivial)
  rw [if_pos rfl]
  have m1 := @mulS_lm a d
  have m2 := @mulS_lm c b
  repeat (first | (with_reducible first | refine Pw.seq ?_ | refine Pw.region ?_ | refine Pw.nil ?_ | refine Pw.then_ ?_ | refine Pw.skip ?_ | refine Pw.block ?_ | refine Pw.exit ?_ | refine Pw.inX ?_ | refine Pw.inN ?_ | refine Pw.inR ?_ | refine Pw.thenX ?_ | refine Pw.thenR ?_ | refine Pw.ret ?_) | refine Pw.list (Pw.pure rfl rfl rfl ?_) | refine Pw.inY rfl ?_ | refine Pw.list (Pw.off rfl rfl ?_) | refine Pw.condT rfl ?_ | refine Pw.condF rfl ?_ | refine Pw.list (Pw.box rfl rfl rfl rfl (fun _ => ?_)) | refine Pw.list (Pw.alloc rfl rfl rfl rfl rfl (fun _ => ?_)) | refine Pw.list (Pw.build rfl rfl rfl rfl ?_) | refine Pw.list (Pw.ld rfl inferInstance rfl rfl rfl ?_) | refine Pw.list (Pw.sto rfl rfl inferInstance rfl rfl rfl rfl rfl inferInstance rfl ?_))
  refine Pw.drawnG mixed rfl rfl ?_
  refine Pw.takeP 0 (nb 14 1) rfl rfl rfl rfl (by kernel_rfl) np sf ?_
  refine Pw.takeP 1 (nb 14 3) rfl rfl rfl rfl (by kernel_rfl) np sf ?_
  refine Pw.takeF 2 (nb 14 7) rfl rfl inferInstance rfl rfl rfl (by kernel_rfl) np sf ?_
  refine Pw.takeP 3 (nb 14 15) rfl rfl rfl rfl (by kernel_rfl) np sf ?_
  refine Pw.takeF 4 (nb 14 31) rfl rfl inferInstance rfl rfl rfl (by kernel_rfl) np sf ?_
  refine Pw.takeP 6 (nb 14 95) rfl rfl rfl rfl (by kernel_rfl) np sf ?_
  refine Pw.takeP 7 (nb 14 223) rfl rfl rfl rfl (by kernel_rfl) np sf ?_
  refine Pw.takeF 8 (nb 14 479) rfl rfl inferInstance rfl rfl rfl (by kernel_rfl) np sf ?_
  refine Pw.takeP 9 (nb 14 991) rfl rfl rfl rfl (by kernel_rfl) np sf ?_
  refine Pw.takeF 10 (nb 14 2015) rfl rfl inferInstance rfl rfl rfl (by kernel_rfl) np sf ?_
  refine Pw.one 5 (nb 14 2047) rfl (by kernel_rfl) ?_
  -- call Op.call { callee := Callee.value (Operand.func 27), args := #[Operand.tmp 14, Operand.tmp 16, Operand.tmp 18], argTypes := #[60, 32, 32] }
  refine Pw.call1 (mk_mul0_ct a d y.1 z.2 _ ha hd la ld) rfl rfl rfl (by kernel_rfl) rfl rfl (fun w h => ⟨(by first | exact (fact1 h).1 | exact (fact2 h).1 | exact (fact3 h).1), (by first | exact (fact1 h).2 | exact (fact2 h).2 | exact (fact3 h).2 | exact (fact3 (allTail h)).2)⟩) (.head _) (fun _ => .head) ?_
  intro x1 _
  refine Pw.held sf ?_
  refine Pw.one 11 (nb 14 4095) rfl (by kernel_rfl) ?_
  -- call Op.call { callee := Callee.value (Operand.func 27), args := #[Operand.tmp 20, Operand.tmp 22, Operand.tmp 24], argTypes := #[60, 32, 32] }
  refine Pw.call1 (mk_mul_ct c b z.1 y.2 _ _ hc hb lc lb) rfl rfl rfl (by kernel_rfl) rfl rfl (fun w h => ⟨(by first | exact (fact1 h).1 | exact (fact2 h).1 | exact (fact3 h).1 | exact (fact3 (allTail h)).1 | exact (fact3 (allTail (allTail h))).1), (by first | exact (fact1 h).2 | exact (fact2 h).2 | exact (fact3 h).2 | exact (fact3 (allTail h)).2 | exact (fact3 (allTail (allTail h))).2)⟩) (.head _) (fun _ => .head) ?_
  intro x2 _
  refine Pw.held sf ?_
  refine Pw.takeP 12 (nb 14 8191) rfl rfl rfl rfl (by kernel_rfl) np sf ?_
  refine Pw.takeP 13 (nb 14 16383) rfl rfl rfl rfl (by kernel_rfl) np sf ?_
  refine Pw.done (by kernel_rfl) ?_
  repeat (first | (with_reducible first | refine Pw.seq ?_ | refine Pw.region ?_ | refine Pw.nil ?_ | refine Pw.then_ ?_ | refine Pw.skip ?_ | refine Pw.block ?_ | refine Pw.exit ?_ | refine Pw.inX ?_ | refine Pw.inN ?_ | refine Pw.inR ?_ | refine Pw.thenX ?_ | refine Pw.thenR ?_ | refine Pw.ret ?_) | refine Pw.list (Pw.pure rfl rfl rfl ?_) | refine Pw.inY rfl ?_ | refine Pw.list (Pw.off rfl rfl ?_) | refine Pw.condT rfl ?_ | refine Pw.condF rfl ?_ | refine Pw.list (Pw.box rfl rfl rfl rfl (fun _ => ?_)) | refine Pw.list (Pw.alloc rfl rfl rfl rfl rfl (fun _ => ?_)) | refine Pw.list (Pw.build rfl rfl rfl rfl ?_) | refine Pw.list (Pw.ld rfl inferInstance rfl rfl rfl ?_) | refine Pw.list (Pw.sto rfl rfl inferInstance rfl rfl rfl rfl rfl inferInstance rfl ?_))
  refine Pw.condD rfl (fun c1 => ?_) (fun c1 => ?_)
  · rw [if_pos c1]
    repeat (first | (with_reducible first | refine Pw.seq ?_ | refine Pw.region ?_ | refine Pw.nil ?_ | refine Pw.then_ ?_ | refine Pw.skip ?_ | refine Pw.block ?_ | refine Pw.exit ?_ | refine Pw.inX ?_ | refine Pw.inN ?_ | refine Pw.inR ?_ | refine Pw.thenX ?_ | refine Pw.thenR ?_ | refine Pw.ret ?_) | refine Pw.list (Pw.pure rfl rfl rfl ?_) | refine Pw.inY rfl ?_ | refine Pw.list (Pw.off rfl rfl ?_) | refine Pw.condT rfl ?_ | refine Pw.condF rfl ?_ | refine Pw.list (Pw.box rfl rfl rfl rfl (fun _ => ?_)) | refine Pw.list (Pw.alloc rfl rfl rfl rfl rfl (fun _ => ?_)) | refine Pw.list (Pw.build rfl rfl rfl rfl ?_) | refine Pw.list (Pw.ld rfl inferInstance rfl rfl rfl ?_) | refine Pw.list (Pw.sto rfl rfl inferInstance rfl rfl rfl rfl rfl inferInstance rfl ?_))
    exact Pw.ret_ (x := ()) (.tmp rfl .nil) rfl trivial (fun w h => by trivial)
  · rw [if_neg c1]
    repeat (first | (with_reducible first | refine Pw.seq ?_ | refine Pw.region ?_ | refine Pw.nil ?_ | refine Pw.then_ ?_ | refine Pw.skip ?_ | refine Pw.block ?_ | refine Pw.exit ?_ | refine Pw.inX ?_ | refine Pw.inN ?_ | refine Pw.inR ?_ | refine Pw.thenX ?_ | refine Pw.thenR ?_ | refine Pw.ret ?_) | refine Pw.list (Pw.pure rfl rfl rfl ?_) | refine Pw.inY rfl ?_ | refine Pw.list (Pw.off rfl rfl ?_) | refine Pw.condT rfl ?_ | refine Pw.condF rfl ?_ | refine Pw.list (Pw.box rfl rfl rfl rfl (fun _ => ?_)) | refine Pw.list (Pw.alloc rfl rfl rfl rfl rfl (fun _ => ?_)) | refine Pw.list (Pw.build rfl rfl rfl rfl ?_) | refine Pw.list (Pw.ld rfl inferInstance rfl rfl rfl ?_) | refine Pw.list (Pw.sto rfl rfl inferInstance rfl rfl rfl rfl rfl inferInstance rfl ?_))
    refine Pw.list (Pw.call (Cmp_ct (mulS a d).1 (mulS c b).1 x1 x2 m1.1.1 m2.1.1 (by omega) (by omega)) rfl rfl rfl (by kernel_rfl) rfl rfl (fun w h => ⟨(hv w h), (hv w h)⟩) ?_)
    intro _ _
    repeat (first | (with_reducible first | refine Pw.seq ?_ | refine Pw.region ?_ | refine Pw.nil ?_ | refine Pw.then_ ?_ | refine Pw.skip ?_ | refine Pw.block ?_ | refine Pw.exit ?_ | refine Pw.inX ?_ | refine Pw.inN ?_ | refine Pw.inR ?_ | refine Pw.thenX ?_ | refine Pw.thenR ?_ | refine Pw.ret ?_) | refine Pw.list (Pw.pure rfl rfl rfl ?_) | refine Pw.inY rfl ?_ | refine Pw.list (Pw.off rfl rfl ?_) | refine Pw.condT rfl ?_ | refine Pw.condF rfl ?_ | refine Pw.list (Pw.box rfl rfl rfl rfl (fun _ => ?_)) | refine Pw.list (Pw.alloc rfl rfl rfl rfl rfl (fun _ => ?_)) | refine Pw.list (Pw.build rfl rfl rfl rfl ?_) | refine Pw.list (Pw.ld rfl inferInstance rfl rfl rfl ?_) | refine Pw.list (Pw.sto rfl rfl inferInstance rfl rfl rfl rfl rfl inferInstance rfl ?_))
    exact Pw.ret_ (x := ()) (.tmp rfl .nil) rfl trivial (fun w h => by trivial)
end Go.Proofs.Wk
/- Walks of layer 2: adding, subtracting, the lesser one. -/
namespace Go.Proofs.Wk
open Go.RowKit
set_option maxRecDepth 100000
attribute [local irreducible] Pw OpG
set_option linter.unusedVariables false
set_option linter.unusedSimpArgs false
def err3 (x y z : Int) : Int := if (if x = 0 then y else x) = 0 then z else (if x = 0 then y else x)
def joinS (S : List Int → List Int → List Int × Int) (a b c d : List Int) : List Int × List Int × Int := if (formedR a b && formedR c d) = true then endS (err3 (mulS a d).2 (mulS c b).2 (mulS b d).2) (S (mulS a d).1 (mulS c b).1).2 (S (mulS a d).1 (mulS c b).1).1 (mulS b d).1 else ([], [], 1)
theorem join_ct (S : List Int → List Int → List Int × Int) (f : FuncId) (hS : ∀ u v x y, Lm u → Lm v → u.length < 1048576 → v.length < 1048576 → Ct Try.prog f #[sl u x, sl v y] (fun W => S1 u x W ∧ S1 v y W) (fun z : Option Addr × Nat => .tuple #[sl (S u v).1 z, .int .i64 (S u v).2]) Tt (fun z => S1 (S u v).1 z)) (hf : callB Try.prog f = true) (hlm : ∀ u v, Lm u → Lm v → Fm (S u v).1 ∧ (u.length ≤ 400 → v.length ≤ 400 → (S u v).1.length < 1048576))
    (a b c d : List Int) (y z : Z2) (ha : Lm a) (hb : Lm b) (hc : Lm c) (hd : Lm d) (la : a.length < 1048576) (lb : b.length < 1048576) (lc : c.length < 1048576) (ld : d.length < 1048576) :
    Ct Try.prog 24 #[rt a b y, rt c d z, .func (.func f) #[] #[]] (fun W => R2 a b y W ∧ R2 c d z W) (fun x : Z2 => .tuple #[rt (joinS S a b c d).1 (joinS S a b c d).2.1 x, .int .i64 (joinS S a b c d).2.2]) Tt (fun x => R2 (joinS S a b c d).1 (joinS S a b c d).2.1 x) := by
  refine Ct.start Try.func24 rfl rfl (slots_of rfl slots3) (fun D w0 => Pw.facts two2 ?_)
  unfold joinS
  repeat (first | (with_reducible first | refine Pw.seq ?_ | refine Pw.region ?_ | refine Pw.nil ?_ | refine Pw.then_ ?_ | refine Pw.skip ?_ | refine Pw.block ?_ | refine Pw.exit ?_ | refine Pw.inX ?_ | refine Pw.inN ?_ | refine Pw.inR ?_ | refine Pw.thenX ?_ | refine Pw.thenR ?_ | refine Pw.ret ?_) | refine Pw.list (Pw.pure rfl rfl rfl ?_) | refine Pw.inY rfl ?_ | refine Pw.list (Pw.off rfl rfl ?_) | refine Pw.condT rfl ?_ | refine Pw.condF rfl ?_ | refine Pw.list (Pw.box rfl rfl rfl rfl (fun _ => freeHead ?_)) | refine Pw.list (Pw.alloc rfl rfl rfl rfl rfl (fun _ => ?_)) | refine Pw.list (Pw.build rfl rfl rfl rfl ?_) | refine Pw.list (Pw.ld rfl inferInstance rfl rfl rfl ?_) | refine Pw.list (Pw.sto rfl rfl inferInstance rfl rfl rfl rfl rfl inferInstance rfl ?_))
  refine Pw.list (Pw.call (rat_formed_ct a b c d y z ha hb hc hd la lb lc ld) rfl rfl rfl (by kernel_rfl) rfl rfl (fun w h => ⟨(hv w h), (hv w h)⟩) ?_)
  intro _ _
  generalize (formedR a b && formedR c d) = t
  cases t
  · rw [if_neg (by simp)]
    repeat (first | (with_reducible first | refine Pw.seq ?_ | refine Pw.region ?_ | refine Pw.nil ?_ | refine Pw.then_ ?_ | refine Pw.skip ?_ | refine Pw.block ?_ | refine Pw.exit ?_ | refine Pw.inX ?_ | refine Pw.inN ?_ | refine Pw.inR ?_ | refine Pw.thenX ?_ | refine Pw.thenR ?_ | refine Pw.ret ?_) | refine Pw.list (Pw.pure rfl rfl rfl ?_) | refine Pw.inY rfl ?_ | refine Pw.list (Pw.off rfl rfl ?_) | refine Pw.condT rfl ?_ | refine Pw.condF rfl ?_ | refine Pw.list (Pw.box rfl rfl rfl rfl (fun _ => ?_)) | refine Pw.list (Pw.alloc rfl rfl rfl rfl rfl (fun _ => ?_)) | refine Pw.list (Pw.build rfl rfl rfl rfl ?_) | refine Pw.list (Pw.ld rfl inferInstance rfl rfl rfl ?_) | refine Pw.list (Pw.sto rfl rfl inferInstance rfl rfl rfl rfl rfl inferInstance rfl ?_))
    exact Pw.ret_ (x := z0) (.cell rfl (fun w hs => hs.own _ (.head _)) rfl (.tmp rfl .nil)) rfl trivial (fun w h => R2.nil w)
  rw [if_pos rfl]
  have m1 := @mulS_lm a d
  have m2 := @mulS_lm c b
  have m3 := @mulS_lm b d
  repeat (first | (with_reducible first | refine Pw.seq ?_ | refine Pw.region ?_ | refine Pw.nil ?_ | refine Pw.then_ ?_ | refine Pw.skip ?_ | refine Pw.block ?_ | refine Pw.exit ?_ | refine Pw.inX ?_ | refine Pw.inN ?_ | refine Pw.inR ?_ | refine Pw.thenX ?_ | refine Pw.thenR ?_ | refine Pw.ret ?_) | refine Pw.list (Pw.pure rfl rfl rfl ?_) | refine Pw.inY rfl ?_ | refine Pw.list (Pw.off rfl rfl ?_) | refine Pw.condT rfl ?_ | refine Pw.condF rfl ?_ | refine Pw.list (Pw.box rfl rfl rfl rfl (fun _ => ?_)) | refine Pw.list (Pw.alloc rfl rfl rfl rfl rfl (fun _ => ?_)) | refine Pw.list (Pw.build rfl rfl rfl rfl ?_) | refine Pw.list (Pw.ld rfl inferInstance rfl rfl rfl ?_) | refine Pw.list (Pw.sto rfl rfl inferInstance rfl rfl rfl rfl rfl inferInstance rfl ?_))
  refine Pw.drawnG mixed rfl rfl ?_
  refine Pw.takeP 0 (nb 21 1) rfl rfl rfl rfl (by kernel_rfl) np sf ?_
  refine Pw.takeP 1 (nb 21 3) rfl rfl rfl rfl (by kernel_rfl) np sf ?_
  refine Pw.takeF 2 (nb 21 7) rfl rfl inferInstance rfl rfl rfl (by kernel_rfl) np sf ?_
  refine Pw.takeP 3 (nb 21 15) rfl rfl rfl rfl (by kernel_rfl) np sf ?_
  refine Pw.takeF 4 (nb 21 31) rfl rfl inferInstance rfl rfl rfl (by kernel_rfl) np sf ?_
  refine Pw.takeP 6 (nb 21 95) rfl rfl rfl rfl (by kernel_rfl) np sf ?_
  refine Pw.takeP 7 (nb 21 223) rfl rfl rfl rfl (by kernel_rfl) np sf ?_
  refine Pw.takeF 8 (nb 21 479) rfl rfl inferInstance rfl rfl rfl (by kernel_rfl) np sf ?_
  refine Pw.takeP 9 (nb 21 991) rfl rfl rfl rfl (by kernel_rfl) np sf ?_
  refine Pw.takeF 10 (nb 21 2015) rfl rfl inferInstance rfl rfl rfl (by kernel_rfl) np sf ?_
  refine Pw.takeP 12 (nb 21 6111) rfl rfl rfl rfl (by kernel_rfl) np sf ?_
  refine Pw.takeP 13 (nb 21 14303) rfl rfl rfl rfl (by kernel_rfl) np sf ?_
  refine Pw.takeF 14 (nb 21 30687) rfl rfl inferInstance rfl rfl rfl (by kernel_rfl) np sf ?_
  refine Pw.takeP 15 (nb 21 63455) rfl rfl rfl rfl (by kernel_rfl) np sf ?_
  refine Pw.takeF 16 (nb 21 128991) rfl rfl inferInstance rfl rfl rfl (by kernel_rfl) np sf ?_
  refine Pw.one 5 (nb 21 129023) rfl (by kernel_rfl) ?_
  -- call Op.call { callee := Callee.value (Operand.func 27), args := #[Operand.tmp 21, Operand.tmp 23, Operand.tmp 25], argTypes := #[60, 32, 32] }
  refine Pw.call1 (mk_mul0_ct a d y.1 z.2 _ ha hd la ld) rfl rfl rfl (by kernel_rfl) rfl rfl (fun w h => ⟨(hv w h), (hv w h)⟩) (.head _) (fun _ => .head) ?_
  intro x1 _
  refine Pw.held sf ?_
  refine Pw.one 11 (nb 21 131071) rfl (by kernel_rfl) ?_
  -- call Op.call { callee := Callee.value (Operand.func 27), args := #[Operand.tmp 27, Operand.tmp 29, Operand.tmp 31], argTypes := #[60, 32, 32] }
  refine Pw.call1 (mk_mul_ct c b z.1 y.2 _ _ hc hb lc lb) rfl rfl rfl (by kernel_rfl) rfl rfl (fun w h => ⟨(hv w h), (hv w h)⟩) (.head _) (fun _ => .head) ?_
  intro x2 _
  refine Pw.held sf ?_
  refine Pw.one 17 (nb 21 262143) rfl (by kernel_rfl) ?_
  -- call Op.call { callee := Callee.value (Operand.func 27), args := #[Operand.tmp 33, Operand.tmp 35, Operand.tmp 37], argTypes := #[60, 32, 32] }
  refine Pw.call1 (mk_mul_ct b d y.2 z.2 _ _ hb hd lb ld) rfl rfl rfl (by kernel_rfl) rfl rfl (fun w h => ⟨(hv w h), (hv w h)⟩) (.head _) (fun _ => .head) ?_
  intro x3 _
  refine Pw.held sf ?_
  refine Pw.takeP 18 (nb 21 524287) rfl rfl rfl rfl (by kernel_rfl) np sf ?_
  refine Pw.takeP 19 (nb 21 1048575) rfl rfl rfl rfl (by kernel_rfl) np sf ?_
  refine Pw.takeP 20 (nb 21 2097151) rfl rfl rfl rfl (by kernel_rfl) np sf ?_
  refine Pw.done (by kernel_rfl) ?_
  repeat (first | (with_reducible first | refine Pw.seq ?_ | refine Pw.region ?_ | refine Pw.nil ?_ | refine Pw.then_ ?_ | refine Pw.skip ?_ | refine Pw.block ?_ | refine Pw.exit ?_ | refine Pw.inX ?_ | refine Pw.inN ?_ | refine Pw.inR ?_ | refine Pw.thenX ?_ | refine Pw.thenR ?_ | refine Pw.ret ?_) | refine Pw.list (Pw.pure rfl rfl rfl ?_) | refine Pw.inY rfl ?_ | refine Pw.list (Pw.off rfl rfl ?_) | refine Pw.condT rfl ?_ | refine Pw.condF rfl ?_ | refine Pw.list (Pw.box rfl rfl rfl rfl (fun _ => ?_)) | refine Pw.list (Pw.alloc rfl rfl rfl rfl rfl (fun _ => ?_)) | refine Pw.list (Pw.build rfl rfl rfl rfl ?_) | refine Pw.list (Pw.ld rfl inferInstance rfl rfl rfl ?_) | refine Pw.list (Pw.sto rfl rfl inferInstance rfl rfl rfl rfl rfl inferInstance rfl ?_))
  refine Pw.list (Pw.call (hS (mulS a d).1 (mulS c b).1 x1 x2 m1.1.1 m2.1.1 (by omega) (by omega)) rfl rfl rfl hf rfl rfl (fun w h => ⟨(hv w h), (hv w h)⟩) ?_)
  intro x4 _
  obtain ⟨n1, n2⟩ := hlm (mulS a d).1 (mulS c b).1 m1.1.1 m2.1.1
  repeat (first | (with_reducible first | refine Pw.seq ?_ | refine Pw.region ?_ | refine Pw.nil ?_ | refine Pw.then_ ?_ | refine Pw.skip ?_ | refine Pw.block ?_ | refine Pw.exit ?_ | refine Pw.inX ?_ | refine Pw.inN ?_ | refine Pw.inR ?_ | refine Pw.thenX ?_ | refine Pw.thenR ?_ | refine Pw.ret ?_) | refine Pw.list (Pw.pure rfl rfl rfl ?_) | refine Pw.inY rfl ?_ | refine Pw.list (Pw.off rfl rfl ?_) | refine Pw.condT rfl ?_ | refine Pw.condF rfl ?_ | refine Pw.list (Pw.box rfl rfl rfl rfl (fun _ => ?_)) | refine Pw.list (Pw.alloc rfl rfl rfl rfl rfl (fun _ => ?_)) | refine Pw.list (Pw.build rfl rfl rfl rfl ?_) | refine Pw.list (Pw.ld rfl inferInstance rfl rfl rfl ?_) | refine Pw.list (Pw.sto rfl rfl inferInstance rfl rfl rfl rfl rfl inferInstance rfl ?_))
  refine freeHead ?_
  refine Pw.list (Pw.call (mk_end_ct (S (mulS a d).1 (mulS c b).1).1 (mulS b d).1 x4 x3 _ _ (S (mulS a d).1 (mulS c b).1).2 n1.1 m3.1.1 (n2 m1.2 m2.2) (by omega)) rfl rfl rfl (by kernel_rfl) rfl rfl (fun w h => ⟨fact0 h, (hv w h), (hv w h)⟩) ?_)
  intro x5 _
  repeat (first | (with_reducible first | refine Pw.seq ?_ | refine Pw.region ?_ | refine Pw.nil ?_ | refine Pw.then_ ?_ | refine Pw.skip ?_ | refine Pw.block ?_ | refine Pw.exit ?_ | refine Pw.inX ?_ | refine Pw.inN ?_ | refine Pw.inR ?_ | refine Pw.thenX ?_ | refine Pw.thenR ?_ | refine Pw.ret ?_) | refine Pw.list (Pw.pure rfl rfl rfl ?_) | refine Pw.inY rfl ?_ | refine Pw.list (Pw.off rfl rfl ?_) | refine Pw.condT rfl ?_ | refine Pw.condF rfl ?_ | refine Pw.list (Pw.box rfl rfl rfl rfl (fun _ => ?_)) | refine Pw.list (Pw.alloc rfl rfl rfl rfl rfl (fun _ => ?_)) | refine Pw.list (Pw.build rfl rfl rfl rfl ?_) | refine Pw.list (Pw.ld rfl inferInstance rfl rfl rfl ?_) | refine Pw.list (Pw.sto rfl rfl inferInstance rfl rfl rfl rfl rfl inferInstance rfl ?_))
  exact Pw.ret_ (x := x5) (.cell rfl (fun w hs => hs.own _ (.head _)) rfl (.tmp rfl .nil)) rfl trivial (fun w h => fact0 h)
theorem fm_nil : Fm [] := by rw [← natL_zero]; exact natL_fm 0
theorem addS_lm (a b : List Int) (ha : Lm a) (hb : Lm b) : Fm (addS a b).1 ∧ (a.length ≤ 400 → b.length ≤ 400 → (addS a b).1.length < 1048576) := by
  unfold addS
  split
  · unfold fitN
    split
    next h => exact ⟨natL_fm _, fun _ _ => by show (natL _).length < _; omega⟩
    next h => exact ⟨fm_nil, fun _ _ => by simp⟩
  · exact ⟨fm_nil, fun _ _ => by simp⟩
theorem subS_lm (a b : List Int) (ha : Lm a) (hb : Lm b) : Fm (subS a b).1 ∧ (a.length ≤ 400 → b.length ≤ 400 → (subS a b).1.length < 1048576) := by
  unfold subS
  split
  next h =>
    split
    next h1 => exact ⟨fm_nil, fun _ _ => by simp⟩
    next h1 =>
      refine ⟨natL_fm _, fun h2 h3 => ?_⟩
      show (natL _).length < _
      have v1 := val_lt_pw ha
      have v2 := val_nonneg hb
      have := natL_len_le (n := a.length) (show 0 ≤ val a - val b by omega) (by omega)
      omega
  · exact ⟨fm_nil, fun _ _ => by simp⟩
theorem rat_Add_ct (a b c d : List Int) (y z : Z2) (ha : Lm a) (hb : Lm b) (hc : Lm c) (hd : Lm d) (la : a.length < 1048576) (lb : b.length < 1048576) (lc : c.length < 1048576) (ld : d.length < 1048576) :
    Ct Try.prog 10 #[rt a b y, rt c d z] (fun W => R2 a b y W ∧ R2 c d z W) (fun x : Z2 => .tuple #[rt (joinS addS a b c d).1 (joinS addS a b c d).2.1 x, .int .i64 (joinS addS a b c d).2.2]) Tt (fun x => R2 (joinS addS a b c d).1 (joinS addS a b c d).2.1 x) := by
  refine Ct.start Try.func10 rfl rfl (slots_of rfl slots2) (fun D w0 => Pw.facts two2 ?_)
  repeat (first | (with_reducible first | refine Pw.seq ?_ | refine Pw.region ?_ | refine Pw.nil ?_ | refine Pw.then_ ?_ | refine Pw.skip ?_ | refine Pw.block ?_ | refine Pw.exit ?_ | refine Pw.inX ?_ | refine Pw.inN ?_ | refine Pw.inR ?_ | refine Pw.thenX ?_ | refine Pw.thenR ?_ | refine Pw.ret ?_) | refine Pw.list (Pw.pure rfl rfl rfl ?_) | refine Pw.inY rfl ?_ | refine Pw.list (Pw.off rfl rfl ?_) | refine Pw.condT rfl ?_ | refine Pw.condF rfl ?_ | refine Pw.list (Pw.box rfl rfl rfl rfl (fun _ => freeHead ?_)) | refine Pw.list (Pw.alloc rfl rfl rfl rfl rfl (fun _ => ?_)) | refine Pw.list (Pw.build rfl rfl rfl rfl ?_) | refine Pw.list (Pw.ld rfl inferInstance rfl rfl rfl ?_) | refine Pw.list (Pw.sto rfl rfl inferInstance rfl rfl rfl rfl rfl inferInstance rfl ?_))
  refine Pw.list (Pw.call (join_ct addS 25 (fun u v x y hu hv lu lv => Add_ct u v x y hu hv lu lv) (by kernel_rfl) addS_lm a b c d y z ha hb hc hd la lb lc ld) rfl rfl rfl (by kernel_rfl) rfl rfl (fun w h => ⟨(hv w h), (hv w h)⟩) ?_)
  intro x _
  repeat (first | (with_reducible first | refine Pw.seq ?_ | refine Pw.region ?_ | refine Pw.nil ?_ | refine Pw.then_ ?_ | refine Pw.skip ?_ | refine Pw.block ?_ | refine Pw.exit ?_ | refine Pw.inX ?_ | refine Pw.inN ?_ | refine Pw.inR ?_ | refine Pw.thenX ?_ | refine Pw.thenR ?_ | refine Pw.ret ?_) | refine Pw.list (Pw.pure rfl rfl rfl ?_) | refine Pw.inY rfl ?_ | refine Pw.list (Pw.off rfl rfl ?_) | refine Pw.condT rfl ?_ | refine Pw.condF rfl ?_ | refine Pw.list (Pw.box rfl rfl rfl rfl (fun _ => ?_)) | refine Pw.list (Pw.alloc rfl rfl rfl rfl rfl (fun _ => ?_)) | refine Pw.list (Pw.build rfl rfl rfl rfl ?_) | refine Pw.list (Pw.ld rfl inferInstance rfl rfl rfl ?_) | refine Pw.list (Pw.sto rfl rfl inferInstance rfl rfl rfl rfl rfl inferInstance rfl ?_))
  exact Pw.ret_ (x := x) (.cell rfl (fun w hs => hs.own _ (.head _)) rfl (.tmp rfl .nil)) rfl trivial (fun w h => fact0 h)
theorem rat_Sub_ct (a b c d : List Int) (y z : Z2) (ha : Lm a) (hb : Lm b) (hc : Lm c) (hd : Lm d) (la : a.length < 1048576) (lb : b.length < 1048576) (lc : c.length < 1048576) (ld : d.length < 1048576) :
    Ct Try.prog 21 #[rt a b y, rt c d z] (fun W => R2 a b y W ∧ R2 c d z W) (fun x : Z2 => .tuple #[rt (joinS subS a b c d).1 (joinS subS a b c d).2.1 x, .int .i64 (joinS subS a b c d).2.2]) Tt (fun x => R2 (joinS subS a b c d).1 (joinS subS a b c d).2.1 x) := by
  refine Ct.start Try.func21 rfl rfl (slots_of rfl slots2) (fun D w0 => Pw.facts two2 ?_)
  repeat (first | (with_reducible first | refine Pw.seq ?_ | refine Pw.region ?_ | refine Pw.nil ?_ | refine Pw.then_ ?_ | refine Pw.skip ?_ | refine Pw.block ?_ | refine Pw.exit ?_ | refine Pw.inX ?_ | refine Pw.inN ?_ | refine Pw.inR ?_ | refine Pw.thenX ?_ | refine Pw.thenR ?_ | refine Pw.ret ?_) | refine Pw.list (Pw.pure rfl rfl rfl ?_) | refine Pw.inY rfl ?_ | refine Pw.list (Pw.off rfl rfl ?_) | refine Pw.condT rfl ?_ | refine Pw.condF rfl ?_ | refine Pw.list (Pw.box rfl rfl rfl rfl (fun _ => freeHead ?_)) | refine Pw.list (Pw.alloc rfl rfl rfl rfl rfl (fun _ => ?_)) | refine Pw.list (Pw.build rfl rfl rfl rfl ?_) | refine Pw.list (Pw.ld rfl inferInstance rfl rfl rfl ?_) | refine Pw.list (Pw.sto rfl rfl inferInstance rfl rfl rfl rfl rfl inferInstance rfl ?_))
  refine Pw.list (Pw.call (join_ct subS 40 (fun u v x y hu hv lu lv => Sub_ct u v x y hu hv lu lv) (by kernel_rfl) subS_lm a b c d y z ha hb hc hd la lb lc ld) rfl rfl rfl (by kernel_rfl) rfl rfl (fun w h => ⟨(hv w h), (hv w h)⟩) ?_)
  intro x _
  repeat (first | (with_reducible first | refine Pw.seq ?_ | refine Pw.region ?_ | refine Pw.nil ?_ | refine Pw.then_ ?_ | refine Pw.skip ?_ | refine Pw.block ?_ | refine Pw.exit ?_ | refine Pw.inX ?_ | refine Pw.inN ?_ | refine Pw.inR ?_ | refine Pw.thenX ?_ | refine Pw.thenR ?_ | refine Pw.ret ?_) | refine Pw.list (Pw.pure rfl rfl rfl ?_) | refine Pw.inY rfl ?_ | refine Pw.list (Pw.off rfl rfl ?_) | refine Pw.condT rfl ?_ | refine Pw.condF rfl ?_ | refine Pw.list (Pw.box rfl rfl rfl rfl (fun _ => ?_)) | refine Pw.list (Pw.alloc rfl rfl rfl rfl rfl (fun _ => ?_)) | refine Pw.list (Pw.build rfl rfl rfl rfl ?_) | refine Pw.list (Pw.ld rfl inferInstance rfl rfl rfl ?_) | refine Pw.list (Pw.sto rfl rfl inferInstance rfl rfl rfl rfl rfl inferInstance rfl ?_))
  exact Pw.ret_ (x := x) (.cell rfl (fun w hs => hs.own _ (.head _)) rfl (.tmp rfl .nil)) rfl trivial (fun w h => fact0 h)
end Go.Proofs.Wk
/- What layer 2 answers, of formed fractions. -/
namespace Go.Proofs.Wk
set_option linter.unusedVariables false
set_option linter.unusedSimpArgs false

theorem mulS_bd {a b : List Int} (ha : fmB a = true) (hb : fmB b = true) : mulS a b = bdS (natL (val a * val b)) := by
  unfold mulS; rw [if_pos ⟨ha, hb⟩]; rfl
theorem addS_bd {a b : List Int} (ha : fmB a = true) (hb : fmB b = true) : addS a b = bdS (natL (val a + val b)) := by
  unfold addS; rw [if_pos ⟨ha, hb⟩]; rfl
theorem bd_ok {l : List Int} (h : l.length ≤ 400) : bdS l = (l, 0) := if_pos h
theorem bd_no {l : List Int} (h : ¬ l.length ≤ 400) : bdS l = ([], 4) := if_neg h
theorem makeS_natL {p q : Int} (hq : 0 < q) (h1 : (natL p).length ≤ 400) (h2 : (natL q).length ≤ 400) : makeS (natL p) (natL q) = ((lowS (natL p) (natL q)).1, (lowS (natL p) (natL q)).2, 0) := by
  unfold makeS
  rw [if_pos ⟨fmB_natL h1, fmB_natL h2⟩, if_neg (fun e => by have := (natL_len_zero (show 0 ≤ q by omega)).1 e; omega)]
theorem fm_pos {b : List Int} (hb : Lm b) (h : fmB b = true) (h0 : 0 < b.length) : 0 < val b := val_pos_of ((fmB_iff hb).1 h).2 (by omega)
section
variable {a b c d : List Int} (ha : Lm a) (hb : Lm b) (hc : Lm c) (hd : Lm d) (hf : formedR a b = true) (hg : formedR c d = true)
include ha hb hc hd hf hg
theorem rmulS_eq : rmulS a b c d = if (natL (val a * val c)).length ≤ 400 ∧ (natL (val b * val d)).length ≤ 400 then ((lowS (natL (val a * val c)) (natL (val b * val d))).1, (lowS (natL (val a * val c)) (natL (val b * val d))).2, 0) else ([], [], 4) := by
  obtain ⟨f1, f2, f3, _⟩ := formedR_spec ha hb hf
  obtain ⟨g1, g2, g3, _⟩ := formedR_spec hc hd hg
  have hq := Int.mul_pos (fm_pos hb f2 f3) (fm_pos hd g2 g3)
  unfold rmulS
  rw [if_pos (by simp [hf, hg]), mulS_bd f1 g1, mulS_bd f2 g2]
  by_cases h1 : (natL (val a * val c)).length ≤ 400 <;> by_cases h2 : (natL (val b * val d)).length ≤ 400
  · rw [bd_ok h1, bd_ok h2]; show endS 0 0 (natL _) (natL _) = _; rw [if_pos ⟨h1, h2⟩]; exact makeS_natL hq h1 h2
  · rw [bd_ok h1, bd_no h2]; show endS 4 0 (natL _) [] = _; rw [if_neg (fun h => h2 h.2)]; rfl
  · rw [bd_no h1, bd_ok h2]; show endS 4 0 [] (natL _) = _; rw [if_neg (fun h => h1 h.1)]; rfl
  · rw [bd_no h1, bd_no h2]; show endS 4 0 [] [] = _; rw [if_neg (fun h => h1 h.1)]; rfl
theorem rcmpS_eq : rcmpS a b c d = if (natL (val a * val d)).length ≤ 400 ∧ (natL (val c * val b)).length ≤ 400 then cmpS (val a * val d) (val c * val b) else 0 := by
  obtain ⟨f1, f2, f3, _⟩ := formedR_spec ha hb hf
  obtain ⟨g1, g2, g3, _⟩ := formedR_spec hc hd hg
  have p1 := Int.mul_nonneg (val_nonneg ha) (val_nonneg hd)
  have p2 := Int.mul_nonneg (val_nonneg hc) (val_nonneg hb)
  unfold rcmpS
  rw [if_pos (by simp [hf, hg]), mulS_bd f1 g2, mulS_bd g1 f2]
  by_cases h1 : (natL (val a * val d)).length ≤ 400 <;> by_cases h2 : (natL (val c * val b)).length ≤ 400
  · rw [bd_ok h1, bd_ok h2]
    show cmpF (natL _) (natL _) = _
    rw [if_pos ⟨h1, h2⟩]
    unfold cmpF
    rw [if_pos ⟨fmB_natL h1, fmB_natL h2⟩, val_natL p1, val_natL p2]
  · rw [bd_ok h1, bd_no h2]; show (0 : Int) = _; rw [if_neg (fun h => h2 h.2)]
  · rw [bd_no h1, bd_ok h2]; show (0 : Int) = _; rw [if_neg (fun h => h1 h.1)]
  · rw [bd_no h1, bd_no h2]; show (0 : Int) = _; rw [if_neg (fun h => h1 h.1)]
theorem raddS_eq : joinS addS a b c d = if (natL (val a * val d)).length ≤ 400 ∧ (natL (val c * val b)).length ≤ 400 ∧ (natL (val b * val d)).length ≤ 400 ∧ (natL (val a * val d + val c * val b)).length ≤ 400 then ((lowS (natL (val a * val d + val c * val b)) (natL (val b * val d))).1, (lowS (natL (val a * val d + val c * val b)) (natL (val b * val d))).2, 0) else ([], [], 4) := by
  obtain ⟨f1, f2, f3, _⟩ := formedR_spec ha hb hf
  obtain ⟨g1, g2, g3, _⟩ := formedR_spec hc hd hg
  have hq := Int.mul_pos (fm_pos hb f2 f3) (fm_pos hd g2 g3)
  have p1 := Int.mul_nonneg (val_nonneg ha) (val_nonneg hd)
  have p2 := Int.mul_nonneg (val_nonneg hc) (val_nonneg hb)
  unfold joinS
  rw [if_pos (by simp [hf, hg]), mulS_bd f1 g2, mulS_bd g1 f2, mulS_bd f2 g2]
  by_cases h1 : (natL (val a * val d)).length ≤ 400 <;> by_cases h2 : (natL (val c * val b)).length ≤ 400 <;> by_cases h3 : (natL (val b * val d)).length ≤ 400
  · rw [bd_ok h1, bd_ok h2, bd_ok h3]
    show endS 0 (addS (natL _) (natL _)).2 (addS (natL _) (natL _)).1 (natL _) = _
    rw [addS_bd (fmB_natL h1) (fmB_natL h2), val_natL p1, val_natL p2]
    by_cases h4 : (natL (val a * val d + val c * val b)).length ≤ 400
    · rw [bd_ok h4, if_pos ⟨h1, h2, h3, h4⟩]; exact makeS_natL hq h4 h3
    · rw [bd_no h4, if_neg (fun h => h4 h.2.2.2)]; rfl
  all_goals first
    | (rw [bd_ok h1, bd_ok h2, bd_no h3, if_neg (fun h => h3 h.2.2.1)]; rfl)
    | (rw [bd_ok h1, bd_no h2, bd_ok h3, if_neg (fun h => h2 h.2.1)]; rfl)
    | (rw [bd_ok h1, bd_no h2, bd_no h3, if_neg (fun h => h2 h.2.1)]; rfl)
    | (rw [bd_no h1, bd_ok h2, bd_ok h3, if_neg (fun h => h1 h.1)]; rfl)
    | (rw [bd_no h1, bd_ok h2, bd_no h3, if_neg (fun h => h1 h.1)]; rfl)
    | (rw [bd_no h1, bd_no h2, bd_ok h3, if_neg (fun h => h1 h.1)]; rfl)
    | (rw [bd_no h1, bd_no h2, bd_no h3, if_neg (fun h => h1 h.1)]; rfl)
theorem rsubS_eq : joinS subS a b c d = if (natL (val a * val d)).length ≤ 400 ∧ (natL (val c * val b)).length ≤ 400 ∧ (natL (val b * val d)).length ≤ 400 then (if val a * val d < val c * val b then ([], [], 3) else ((lowS (natL (val a * val d - val c * val b)) (natL (val b * val d))).1, (lowS (natL (val a * val d - val c * val b)) (natL (val b * val d))).2, 0)) else ([], [], 4) := by
  obtain ⟨f1, f2, f3, _⟩ := formedR_spec ha hb hf
  obtain ⟨g1, g2, g3, _⟩ := formedR_spec hc hd hg
  have hq := Int.mul_pos (fm_pos hb f2 f3) (fm_pos hd g2 g3)
  have p1 := Int.mul_nonneg (val_nonneg ha) (val_nonneg hd)
  have p2 := Int.mul_nonneg (val_nonneg hc) (val_nonneg hb)
  unfold joinS
  rw [if_pos (by simp [hf, hg]), mulS_bd f1 g2, mulS_bd g1 f2, mulS_bd f2 g2]
  by_cases h1 : (natL (val a * val d)).length ≤ 400 <;> by_cases h2 : (natL (val c * val b)).length ≤ 400 <;> by_cases h3 : (natL (val b * val d)).length ≤ 400
  · rw [bd_ok h1, bd_ok h2, bd_ok h3, if_pos ⟨h1, h2, h3⟩]
    show endS 0 (subS (natL _) (natL _)).2 (subS (natL _) (natL _)).1 (natL _) = _
    unfold subS
    rw [if_pos ⟨fmB_natL h1, fmB_natL h2⟩, val_natL p1, val_natL p2]
    by_cases h4 : val a * val d < val c * val b
    · rw [if_pos h4, if_pos h4]; rfl
    · rw [if_neg h4, if_neg h4]
      have l1 := val_lt_pw (natL_fm (val a * val d)).1
      rw [val_natL p1] at l1
      have l2 := natL_len_le (n := (natL (val a * val d)).length) (show 0 ≤ val a * val d - val c * val b by omega) (by omega)
      exact makeS_natL hq (by omega) h3
  all_goals first
    | (rw [bd_ok h1, bd_ok h2, bd_no h3, if_neg (fun h => h3 h.2.2)]; rfl)
    | (rw [bd_ok h1, bd_no h2, bd_ok h3, if_neg (fun h => h2 h.2.1)]; rfl)
    | (rw [bd_ok h1, bd_no h2, bd_no h3, if_neg (fun h => h2 h.2.1)]; rfl)
    | (rw [bd_no h1, bd_ok h2, bd_ok h3, if_neg (fun h => h1 h.1)]; rfl)
    | (rw [bd_no h1, bd_ok h2, bd_no h3, if_neg (fun h => h1 h.1)]; rfl)
    | (rw [bd_no h1, bd_no h2, bd_ok h3, if_neg (fun h => h1 h.1)]; rfl)
    | (rw [bd_no h1, bd_no h2, bd_no h3, if_neg (fun h => h1 h.1)]; rfl)
end
end Go.Proofs.Wk
/- RatioRules: what layer 2 answers, of fractions as pairs of numbers. -/
namespace Go.Proofs.Wk
set_option linter.unusedVariables false
set_option linter.unusedSimpArgs false
def lw (p q : Int) : List Int × List Int := (natL (p / gcdI p q), natL (q / gcdI p q))
theorem lowS_natL {p q : Int} (hp : 0 ≤ p) (hq : 0 ≤ q) : lowS (natL p) (natL q) = lw p q := by
  unfold lowS lw; rw [val_natL hp, val_natL hq]
theorem of_lw {n d : Int} (h : 0 ≤ n) (h' : n ≤ 18446744073709551615) (h0 : 0 < d) (h1 : d ≤ 18446744073709551615) : makeS (ofN n) (ofN d) = ((lw n d).1, (lw n d).2, 0) := by
  rw [makeS_of (by omega) h1, if_neg (by omega)]
  unfold lowS
  rw [ofN_val h h', ofN_val (by omega) h1]; rfl
section
variable {p q r s : Int} {n : Nat} (hp : 0 ≤ p) (hq : 0 < q) (hr : 0 ≤ r) (hs : 0 < s) (lp : p < pw n) (lq : q < pw n) (lr : r < pw n) (ls : s < pw n) (hn : n + n + 1 ≤ 400)
include hp hq hr hs lp lq lr ls hn
end
end Go.Proofs.Wk
/- Fractions as rational numbers. -/
namespace Go.Proofs.Wk
set_option linter.unusedVariables false
set_option linter.unusedSimpArgs false
def qn (x : Rat) : List Int := natL x.num
def qd (x : Rat) : List Int := natL (x.den : Int)
/-- The number that two naturals say. -/
def rv (a b : List Int) : Rat := Rat.divInt (val a) (val b)
/-- A number that is not negative, with a numerator and a denominator of at most n limbs. -/
structure Sz (m : Nat) (x : Rat) : Prop where
  p : 0 ≤ x
  n : x.num < pw m
  d : (x.den : Int) < pw m
theorem gcdI_gcd {p q : Int} (hp : 0 ≤ p) (hq : 0 ≤ q) : gcdI p q = ((Int.gcd q p : Nat) : Int) := by
  unfold gcdI Int.gcd
  rw [Nat.gcd_comm, show p.toNat = p.natAbs by omega, show q.toNat = q.natAbs by omega]
theorem lw_q {p q : Int} (hp : 0 ≤ p) (hq : 0 < q) : lw p q = (qn (Rat.divInt p q), qd (Rat.divInt p q)) := by
  unfold lw qn qd
  rw [Rat.num_divInt, Rat.den_divInt, if_neg (by omega), Int.sign_eq_one_of_pos hq, Int.one_mul, gcdI_gcd hp (by omega), Int.natCast_ediv]
  rw [show ((q.natAbs : Nat) : Int) = q by omega]
theorem num_pos {x : Rat} (h : 0 ≤ x) : 0 ≤ x.num := Rat.num_nonneg.2 h
theorem den_pos (x : Rat) : 0 < (x.den : Int) := by have := x.den_nz; omega
theorem val_qn {x : Rat} (h : 0 ≤ x) : val (qn x) = x.num := val_natL (num_pos h)
theorem val_qd (x : Rat) : val (qd x) = (x.den : Int) := val_natL (by have := den_pos x; omega)
theorem mul_lt_pw {a b : Int} {m n : Nat} (ha : 0 ≤ a) (h1 : a < pw m) (h2 : b < pw n) (hb : 0 ≤ b) : a * b < pw (m + n) := by
  rw [pw_add]
  have := pw_pos m
  have h3 : a * b ≤ a * pw n := Int.mul_le_mul_of_nonneg_left (by omega) ha
  have h4 : a * pw n < pw m * pw n := Int.mul_lt_mul_of_pos_right h1 (pw_pos n)
  omega
theorem add_lt_pw {a b : Int} {n : Nat} (h1 : a < pw n) (h2 : b < pw n) : a + b < pw (n + 1) := by
  rw [pw_add]; have : pw 1 = 4294967296 := rfl
  have := pw_pos n
  rw [‹pw 1 = 4294967296›]; omega
theorem Sz.mono {m n : Nat} {x : Rat} (h : Sz m x) (hn : m ≤ n) : Sz n x := ⟨h.p, by have := h.n; have := pw_le hn; omega, by have := h.d; have := pw_le hn; omega⟩
theorem Sz.ln {n : Nat} {x : Rat} (h : Sz n x) : (qn x).length ≤ n := natL_len_le (num_pos h.p) h.n
theorem Sz.ld {n : Nat} {x : Rat} (h : Sz n x) : (qd x).length ≤ n := natL_len_le (by have := den_pos x; omega) h.d
theorem qn_lm (x : Rat) : Lm (qn x) := (natL_fm _).1
theorem qd_lm (x : Rat) : Lm (qd x) := (natL_fm _).1
theorem qd_pos (x : Rat) : 0 < (qd x).length := by
  rcases Nat.eq_zero_or_pos (qd x).length with h | h
  · have := (natL_len_zero (show 0 ≤ (x.den : Int) by have := den_pos x; omega)).1 h; have := den_pos x; omega
  · exact h
theorem Sz.formed {n : Nat} {x : Rat} (h : Sz n x) (hn : n ≤ 400) : formedR (qn x) (qd x) = true := by
  unfold formedR
  have h1 := h.ln; have h2 := h.ld; have h3 := qd_pos x
  rw [show fmB (qn x) = true from fmB_natL (by show (qn x).length ≤ _; omega), show fmB (qd x) = true from fmB_natL (by show (qd x).length ≤ _; omega), val_qn h.p, val_qd, gcdI_gcd (num_pos h.p) (by have := den_pos x; omega)]
  have hr : Int.gcd (x.den : Int) x.num = 1 := by
    have := x.reduced
    unfold Int.gcd; rw [Nat.gcd_comm]; exact this
  rw [hr]; simp [h3]
/-- A fraction that is formed is that of a number. -/
theorem formed_q {a b : List Int} (ha : Lm a) (hb : Lm b) (h : formedR a b = true) : a = qn (rv a b) ∧ b = qd (rv a b) ∧ 0 ≤ rv a b ∧ (rv a b).num = val a ∧ ((rv a b).den : Int) = val b := by
  obtain ⟨f1, f2, f3, f4⟩ := formedR_spec ha hb h
  have hq := fm_pos hb f2 f3
  have hp := val_nonneg ha
  have e := lw_q hp hq
  unfold lw at e
  rw [f4, Int.ediv_one, Int.ediv_one] at e
  have e1 := congrArg Prod.fst e
  have e2 := congrArg Prod.snd e
  dsimp only at e1 e2
  have h0 : 0 ≤ rv a b := Rat.divInt_nonneg hp (by omega)
  refine ⟨by rw [(fmB_nat ha f1).1, ← (fmB_nat ha f1).1]; exact (fmB_nat ha f1).1.trans e1, (fmB_nat hb f2).1.trans e2, h0, ?_, ?_⟩
  · exact natL_inj (num_pos h0) hp (e1.symm)
  · exact natL_inj (by have := den_pos (rv a b); omega) (by omega) (e2.symm)
theorem formed_sz {a b : List Int} (ha : Lm a) (hb : Lm b) (h : formedR a b = true) {n : Nat} (h1 : a.length ≤ n) (h2 : b.length ≤ n) : Sz n (rv a b) := by
  obtain ⟨_, _, h3, h4, h5⟩ := formed_q ha hb h
  have l1 := val_lt_pw ha
  have l2 := val_lt_pw hb
  have := pw_le h1; have := pw_le h2
  exact ⟨h3, by omega, by omega⟩
theorem q_low {p q : Int} (hp : 0 ≤ p) (hq : 0 < q) : lowS (natL p) (natL q) = (qn (Rat.divInt p q), qd (Rat.divInt p q)) := by
  rw [lowS_natL hp (by omega), lw_q hp hq]
section
variable {x y : Rat} {m n : Nat} (hx : Sz m x) (hy : Sz n y)
include hx hy
theorem q_add (h : m + n < 400) : joinS addS (qn x) (qd x) (qn y) (qd y) = (qn (x + y), qd (x + y), 0) := by
  have p1 := num_pos hx.p; have p2 := num_pos hy.p; have d1 := den_pos x; have d2 := den_pos y
  have b1 := mul_lt_pw p1 hx.n hy.d (by omega)
  have b2 := mul_lt_pw p2 hy.n hx.d (by omega)
  have b3 := mul_lt_pw (show 0 ≤ (x.den : Int) by omega) hx.d hy.d (by omega)
  rw [Nat.add_comm n m] at b2
  have b4 := add_lt_pw b1 b2
  have q1 := Int.mul_nonneg p1 (show 0 ≤ (y.den : Int) by omega)
  have q2 := Int.mul_nonneg p2 (show 0 ≤ (x.den : Int) by omega)
  have q3 := Int.mul_pos d1 d2
  rw [raddS_eq (qn_lm x) (qd_lm x) (qn_lm y) (qd_lm y) (hx.formed (by omega)) (hy.formed (by omega)), val_qn hx.p, val_qn hy.p, val_qd, val_qd]
  rw [if_pos ⟨by have := natL_len_le q1 b1; omega, by have := natL_len_le q2 b2; omega, by have := natL_len_le (by omega) b3; omega, by have := natL_len_le (by omega) b4; omega⟩, q_low (by omega) q3]
  rw [show x + y = Rat.divInt (x.num * y.den + y.num * x.den) ((x.den : Int) * (y.den : Int)) by rw [Rat.add_def', ← Int.natCast_mul, Rat.divInt_ofNat]]
theorem q_sub (h : m + n ≤ 400) : joinS subS (qn x) (qd x) (qn y) (qd y) = if x < y then ([], [], 3) else (qn (x - y), qd (x - y), 0) := by
  have p1 := num_pos hx.p; have p2 := num_pos hy.p; have d1 := den_pos x; have d2 := den_pos y
  have b1 := mul_lt_pw p1 hx.n hy.d (by omega)
  have b2 := mul_lt_pw p2 hy.n hx.d (by omega)
  have b3 := mul_lt_pw (show 0 ≤ (x.den : Int) by omega) hx.d hy.d (by omega)
  rw [Nat.add_comm n m] at b2
  have q1 := Int.mul_nonneg p1 (show 0 ≤ (y.den : Int) by omega)
  have q2 := Int.mul_nonneg p2 (show 0 ≤ (x.den : Int) by omega)
  have q3 := Int.mul_pos d1 d2
  rw [rsubS_eq (qn_lm x) (qd_lm x) (qn_lm y) (qd_lm y) (hx.formed (by omega)) (hy.formed (by omega)), val_qn hx.p, val_qn hy.p, val_qd, val_qd]
  rw [if_pos ⟨by have := natL_len_le q1 b1; omega, by have := natL_len_le q2 b2; omega, by have := natL_len_le (by omega) b3; omega⟩]
  by_cases hlt : x < y
  · rw [if_pos hlt, if_pos ((Rat.lt_iff x y).1 hlt)]
  · have h5 : ¬ x.num * y.den < y.num * x.den := fun e => hlt ((Rat.lt_iff x y).2 e)
    rw [if_neg hlt, if_neg h5, q_low (by omega) q3]
    rw [show x - y = Rat.divInt (x.num * y.den - y.num * x.den) ((x.den : Int) * (y.den : Int)) by rw [Rat.sub_def', ← Int.natCast_mul, Rat.divInt_ofNat]]
def cmpQ (x y : Rat) : Int := if x < y then -1 else if x = y then 0 else 1
theorem q_cmp (h : m + n ≤ 400) : rcmpS (qn x) (qd x) (qn y) (qd y) = cmpQ x y := by
  have p1 := num_pos hx.p; have p2 := num_pos hy.p; have d1 := den_pos x; have d2 := den_pos y
  have b1 := mul_lt_pw p1 hx.n hy.d (by omega)
  have b2 := mul_lt_pw p2 hy.n hx.d (by omega)
  rw [Nat.add_comm n m] at b2
  have q1 := Int.mul_nonneg p1 (show 0 ≤ (y.den : Int) by omega)
  have q2 := Int.mul_nonneg p2 (show 0 ≤ (x.den : Int) by omega)
  rw [rcmpS_eq (qn_lm x) (qd_lm x) (qn_lm y) (qd_lm y) (hx.formed (by omega)) (hy.formed (by omega)), val_qn hx.p, val_qn hy.p, val_qd, val_qd]
  rw [if_pos ⟨by have := natL_len_le q1 b1; omega, by have := natL_len_le q2 b2; omega⟩]
  unfold cmpS cmpQ
  simp only [Rat.lt_iff, Rat.eq_iff_mul_eq_mul]
theorem q_mul (h : m + n ≤ 400) : rmulS (qn x) (qd x) (qn y) (qd y) = (qn (x * y), qd (x * y), 0) := by
  have p1 := num_pos hx.p; have p2 := num_pos hy.p; have d1 := den_pos x; have d2 := den_pos y
  have b1 := mul_lt_pw p1 hx.n hy.n p2
  have b3 := mul_lt_pw (show 0 ≤ (x.den : Int) by omega) hx.d hy.d (by omega)
  have q1 := Int.mul_nonneg p1 p2
  have q3 := Int.mul_pos d1 d2
  rw [rmulS_eq (qn_lm x) (qd_lm x) (qn_lm y) (qd_lm y) (hx.formed (by omega)) (hy.formed (by omega)), val_qn hx.p, val_qn hy.p, val_qd, val_qd]
  rw [if_pos ⟨by have := natL_len_le q1 b1; omega, by have := natL_len_le (by omega) b3; omega⟩, q_low (by omega) q3]
  rw [show x * y = Rat.divInt (x.num * y.num) ((x.den : Int) * (y.den : Int)) by rw [Rat.mul_def', ← Int.natCast_mul, Rat.divInt_ofNat]]
end
theorem sz_int {k : Int} {n : Nat} (h0 : 0 ≤ k) (h : k < pw n) (hn : 1 ≤ n) : Sz n (k : Rat) := ⟨Rat.intCast_nonneg.2 h0, by rw [Rat.num_intCast]; exact h, by rw [Rat.den_intCast]; have := pw_le hn; have : pw 1 = 4294967296 := rfl; omega⟩
theorem q_of {n d : Int} (h : 0 ≤ n) (h' : n ≤ 18446744073709551615) (h0 : 0 < d) (h1 : d ≤ 18446744073709551615) : makeS (ofN n) (ofN d) = (qn (Rat.divInt n d), qd (Rat.divInt n d), 0) := by
  rw [of_lw h h' h0 h1, lw_q h h0]
theorem q_of1 {n : Int} (h : 0 ≤ n) (h' : n ≤ 18446744073709551615) : makeS (ofN n) (ofN 1) = (qn (n : Rat), qd (n : Rat), 0) := by
  rw [q_of h h' (by omega) (by omega), show Rat.divInt n 1 = (n : Rat) by rw [Rat.divInt_eq_div]; grind]
theorem num_pos' {y : Rat} (h0 : 0 < y) : 0 < y.num := by
  have h1 := num_pos (Rat.le_of_lt h0)
  have h2 : y.num ≠ 0 := fun e => by rw [Rat.num_eq_zero] at e; subst e; exact Rat.lt_irrefl h0
  omega
theorem q_inv {y : Rat} (h0 : 0 < y) : qn y⁻¹ = qd y ∧ qd y⁻¹ = qn y := by
  have hn := num_pos' h0
  unfold qn qd
  rw [Rat.num_inv, Rat.den_inv, if_neg (by omega), Int.sign_eq_one_of_pos hn, Int.one_mul, show ((y.num.natAbs : Nat) : Int) = y.num by omega]
  exact ⟨rfl, rfl⟩
theorem sz_inv {y : Rat} {n : Nat} (hy : Sz n y) (h0 : 0 < y) : Sz n y⁻¹ := by
  have hn := num_pos' h0
  refine ⟨Rat.le_of_lt (Rat.inv_pos.2 h0), ?_, ?_⟩
  · rw [Rat.num_inv, Int.sign_eq_one_of_pos hn, Int.one_mul]; exact hy.d
  · rw [Rat.den_inv, if_neg (by omega), show ((y.num.natAbs : Nat) : Int) = y.num by omega]; exact hy.n
theorem q_div {x y : Rat} {m n : Nat} (hx : Sz m x) (hy : Sz n y) (h : m + n ≤ 400) (h0 : 0 < y) : rdivS (qn x) (qd x) (qn y) (qd y) = (qn (x / y), qd (x / y), 0) := by
  have hn := num_pos' h0
  have hl : (qn y).length ≠ 0 := fun e => by have := (natL_len_zero (num_pos hy.p)).1 e; omega
  have e := q_mul hx (sz_inv hy h0) h
  rw [(q_inv h0).1, (q_inv h0).2] at e
  unfold rdivS
  rw [if_pos (by rw [hx.formed (by omega), hy.formed (by omega)]; rfl), if_neg hl, e, Rat.div_def]
end Go.Proofs.Wk
/- Walks of the reference's fractions. -/
namespace Go.Proofs.Wk
open Go.RowKit
set_option maxRecDepth 100000
attribute [local irreducible] Pw OpG
set_option linter.unusedVariables false
set_option linter.unusedSimpArgs false
theorem lowest_ct (a b : List Int) (x y : Option Addr × Nat) (ha : Fm a) (hb : Fm b) (hb0 : b.length ≠ 0) (hl : a.length < 1048576) (hl' : b.length < 1048576) :
    Ct Try.prog 31 #[sl a x, sl b y] (fun W => S1 a x W ∧ S1 b y W) (fun z : Z2 => rt (lowS a b).1 (lowS a b).2 z) Tt (fun z => R2 (lowS a b).1 (lowS a b).2 z) := by
  refine Ct.start Try.func31 rfl rfl (slots_of rfl slots2) (fun D w0 => Pw.facts two2 ?_)
  have hbp := val_pos_of hb hb0
  have g0 := gcdI_pos (x := val a) hbp
  have gl := gcdI_le (x := val a) hbp
  have hg := rgcd_ct a b x y ha hb hl hl'
  unfold lowS
  obtain ⟨G, hG⟩ : ∃ g, g = gcdI (val a) (val b) := ⟨_, rfl⟩
  rw [← hG] at g0 gl hg ⊢
  have pb := val_lt_pw hb.1
  have lg := natL_len_le (n := b.length) (show 0 ≤ G by omega) (by omega)
  have hz : (natL G).length ≠ 0 := fun e => by have := (natL_len_zero (show 0 ≤ G by omega)).1 e; omega
  repeat (first | (with_reducible first | refine Pw.seq ?_ | refine Pw.region ?_ | refine Pw.nil ?_ | refine Pw.then_ ?_ | refine Pw.skip ?_ | refine Pw.block ?_ | refine Pw.exit ?_ | refine Pw.inX ?_ | refine Pw.inN ?_ | refine Pw.inR ?_ | refine Pw.thenX ?_ | refine Pw.thenR ?_ | refine Pw.ret ?_) | refine Pw.list (Pw.pure rfl rfl rfl ?_) | refine Pw.inY rfl ?_ | refine Pw.list (Pw.off rfl rfl ?_) | refine Pw.condT rfl ?_ | refine Pw.condF rfl ?_ | refine Pw.list (Pw.box rfl rfl rfl rfl (fun _ => freeHead ?_)) | refine Pw.list (Pw.alloc rfl rfl rfl rfl rfl (fun _ => ?_)) | refine Pw.list (Pw.build rfl rfl rfl rfl ?_) | refine Pw.list (Pw.ld rfl inferInstance rfl rfl rfl ?_) | refine Pw.list (Pw.sto rfl rfl inferInstance rfl rfl rfl rfl rfl inferInstance rfl ?_))
  refine Pw.list (Pw.call hg rfl rfl rfl (by kernel_rfl) rfl rfl (fun w h => ⟨(hv w h), (hv w h)⟩) ?_)
  intro zg _
  have d1 := rdivMod_ct a (natL G) x zg ha (natL_fm G) hz hl (by omega)
  have d2 := rdivMod_ct b (natL G) y zg hb (natL_fm G) hz hl' (by omega)
  rw [val_natL (by omega)] at d1 d2
  repeat (first | (with_reducible first | refine Pw.seq ?_ | refine Pw.region ?_ | refine Pw.nil ?_ | refine Pw.then_ ?_ | refine Pw.skip ?_ | refine Pw.block ?_ | refine Pw.exit ?_ | refine Pw.inX ?_ | refine Pw.inN ?_ | refine Pw.inR ?_ | refine Pw.thenX ?_ | refine Pw.thenR ?_ | refine Pw.ret ?_) | refine Pw.list (Pw.pure rfl rfl rfl ?_) | refine Pw.inY rfl ?_ | refine Pw.list (Pw.off rfl rfl ?_) | refine Pw.condT rfl ?_ | refine Pw.condF rfl ?_ | refine Pw.list (Pw.box rfl rfl rfl rfl (fun _ => freeHead ?_)) | refine Pw.list (Pw.alloc rfl rfl rfl rfl rfl (fun _ => ?_)) | refine Pw.list (Pw.build rfl rfl rfl rfl ?_) | refine Pw.list (Pw.ld rfl inferInstance rfl rfl rfl ?_) | refine Pw.list (Pw.sto rfl rfl inferInstance rfl rfl rfl rfl rfl inferInstance rfl ?_))
  refine Pw.list (Pw.call d1 rfl rfl rfl (by kernel_rfl) rfl rfl (fun w h => ⟨(hv w h), (hv w h)⟩) ?_)
  intro z1 _
  repeat (first | (with_reducible first | refine Pw.seq ?_ | refine Pw.region ?_ | refine Pw.nil ?_ | refine Pw.then_ ?_ | refine Pw.skip ?_ | refine Pw.block ?_ | refine Pw.exit ?_ | refine Pw.inX ?_ | refine Pw.inN ?_ | refine Pw.inR ?_ | refine Pw.thenX ?_ | refine Pw.thenR ?_ | refine Pw.ret ?_) | refine Pw.list (Pw.pure rfl rfl rfl ?_) | refine Pw.inY rfl ?_ | refine Pw.list (Pw.off rfl rfl ?_) | refine Pw.condT rfl ?_ | refine Pw.condF rfl ?_ | refine Pw.list (Pw.box rfl rfl rfl rfl (fun _ => freeHead ?_)) | refine Pw.list (Pw.alloc rfl rfl rfl rfl rfl (fun _ => ?_)) | refine Pw.list (Pw.build rfl rfl rfl rfl ?_) | refine Pw.list (Pw.ld rfl inferInstance rfl rfl rfl ?_) | refine Pw.list (Pw.sto rfl rfl inferInstance rfl rfl rfl rfl rfl inferInstance rfl ?_))
  refine Pw.list (Pw.call d2 rfl rfl rfl (by kernel_rfl) rfl rfl (fun w h => ⟨(hv w h), (hv w h)⟩) ?_)
  intro z2 _
  repeat (first | (with_reducible first | refine Pw.seq ?_ | refine Pw.region ?_ | refine Pw.nil ?_ | refine Pw.then_ ?_ | refine Pw.skip ?_ | refine Pw.block ?_ | refine Pw.exit ?_ | refine Pw.inX ?_ | refine Pw.inN ?_ | refine Pw.inR ?_ | refine Pw.thenX ?_ | refine Pw.thenR ?_ | refine Pw.ret ?_) | refine Pw.list (Pw.pure rfl rfl rfl ?_) | refine Pw.inY rfl ?_ | refine Pw.list (Pw.off rfl rfl ?_) | refine Pw.condT rfl ?_ | refine Pw.condF rfl ?_ | refine Pw.list (Pw.box rfl rfl rfl rfl (fun _ => freeHead ?_)) | refine Pw.list (Pw.alloc rfl rfl rfl rfl rfl (fun _ => ?_)) | refine Pw.list (Pw.build rfl rfl rfl rfl ?_) | refine Pw.list (Pw.ld rfl inferInstance rfl rfl rfl ?_) | refine Pw.list (Pw.sto rfl rfl inferInstance rfl rfl rfl rfl rfl inferInstance rfl ?_))
  exact Pw.ret_ (x := (z1.1, z2.1)) (.cell rfl (fun w hs => hs.own _ (.head _)) rfl .nil) rfl trivial (fun w h => ⟨(fact1 h).1, (fact0 h).1⟩)
theorem SameRatio_ct (a b c d : List Int) (y z : Z2) (ha : Fm a) (hb : Fm b) (hc : Fm c) (hd : Fm d) (la : a.length < 1048576) (lb : b.length < 1048576) (lc : c.length < 1048576) (ld : d.length < 1048576) :
    Ct Try.prog 29 #[rt a b y, rt c d z] (fun W => R2 a b y W ∧ R2 c d z W) (fun _ : Unit => .bool (decide (val a = val c) && decide (val b = val d))) Tt (fun _ _ => True) := by
  refine Ct.start Try.func29 rfl rfl (slots_of rfl slots2) (fun D w0 => Pw.facts two2 ?_)
  repeat (first | (with_reducible first | refine Pw.seq ?_ | refine Pw.region ?_ | refine Pw.nil ?_ | refine Pw.then_ ?_ | refine Pw.skip ?_ | refine Pw.block ?_ | refine Pw.exit ?_ | refine Pw.inX ?_ | refine Pw.inN ?_ | refine Pw.inR ?_ | refine Pw.thenX ?_ | refine Pw.thenR ?_ | refine Pw.ret ?_) | refine Pw.list (Pw.pure rfl rfl rfl ?_) | refine Pw.inY rfl ?_ | refine Pw.list (Pw.off rfl rfl ?_) | refine Pw.condT rfl ?_ | refine Pw.condF rfl ?_ | refine Pw.list (Pw.box rfl rfl rfl rfl (fun _ => freeHead ?_)) | refine Pw.list (Pw.alloc rfl rfl rfl rfl rfl (fun _ => ?_)) | refine Pw.list (Pw.build rfl rfl rfl rfl ?_) | refine Pw.list (Pw.ld rfl inferInstance rfl rfl rfl ?_) | refine Pw.list (Pw.sto rfl rfl inferInstance rfl rfl rfl rfl rfl inferInstance rfl ?_))
  refine Pw.list (Pw.call (rSame_ct a c y.1 z.1 ha hc (by omega) (by omega)) rfl rfl rfl (by kernel_rfl) rfl rfl (fun w h => ⟨(hv w h), (hv w h)⟩) ?_)
  intro _ _
  generalize decide (val a = val c) = t
  cases t
  · repeat (first | (with_reducible first | refine Pw.seq ?_ | refine Pw.region ?_ | refine Pw.nil ?_ | refine Pw.then_ ?_ | refine Pw.skip ?_ | refine Pw.block ?_ | refine Pw.exit ?_ | refine Pw.inX ?_ | refine Pw.inN ?_ | refine Pw.inR ?_ | refine Pw.thenX ?_ | refine Pw.thenR ?_ | refine Pw.ret ?_) | refine Pw.list (Pw.pure rfl rfl rfl ?_) | refine Pw.inY rfl ?_ | refine Pw.list (Pw.off rfl rfl ?_) | refine Pw.condT rfl ?_ | refine Pw.condF rfl ?_ | refine Pw.list (Pw.box rfl rfl rfl rfl (fun _ => freeHead ?_)) | refine Pw.list (Pw.alloc rfl rfl rfl rfl rfl (fun _ => ?_)) | refine Pw.list (Pw.build rfl rfl rfl rfl ?_) | refine Pw.list (Pw.ld rfl inferInstance rfl rfl rfl ?_) | refine Pw.list (Pw.sto rfl rfl inferInstance rfl rfl rfl rfl rfl inferInstance rfl ?_))
    exact Pw.ret_ (x := ()) (.tmp rfl .nil) rfl trivial (fun w h => by trivial)
  · repeat (first | (with_reducible first | refine Pw.seq ?_ | refine Pw.region ?_ | refine Pw.nil ?_ | refine Pw.then_ ?_ | refine Pw.skip ?_ | refine Pw.block ?_ | refine Pw.exit ?_ | refine Pw.inX ?_ | refine Pw.inN ?_ | refine Pw.inR ?_ | refine Pw.thenX ?_ | refine Pw.thenR ?_ | refine Pw.ret ?_) | refine Pw.list (Pw.pure rfl rfl rfl ?_) | refine Pw.inY rfl ?_ | refine Pw.list (Pw.off rfl rfl ?_) | refine Pw.condT rfl ?_ | refine Pw.condF rfl ?_ | refine Pw.list (Pw.box rfl rfl rfl rfl (fun _ => freeHead ?_)) | refine Pw.list (Pw.alloc rfl rfl rfl rfl rfl (fun _ => ?_)) | refine Pw.list (Pw.build rfl rfl rfl rfl ?_) | refine Pw.list (Pw.ld rfl inferInstance rfl rfl rfl ?_) | refine Pw.list (Pw.sto rfl rfl inferInstance rfl rfl rfl rfl rfl inferInstance rfl ?_))
    refine Pw.list (Pw.call (rSame_ct b d y.2 z.2 hb hd (by omega) (by omega)) rfl rfl rfl (by kernel_rfl) rfl rfl (fun w h => ⟨(hv w h), (hv w h)⟩) ?_)
    intro _ _
    repeat (first | (with_reducible first | refine Pw.seq ?_ | refine Pw.region ?_ | refine Pw.nil ?_ | refine Pw.then_ ?_ | refine Pw.skip ?_ | refine Pw.block ?_ | refine Pw.exit ?_ | refine Pw.inX ?_ | refine Pw.inN ?_ | refine Pw.inR ?_ | refine Pw.thenX ?_ | refine Pw.thenR ?_ | refine Pw.ret ?_) | refine Pw.list (Pw.pure rfl rfl rfl ?_) | refine Pw.inY rfl ?_ | refine Pw.list (Pw.off rfl rfl ?_) | refine Pw.condT rfl ?_ | refine Pw.condF rfl ?_ | refine Pw.list (Pw.box rfl rfl rfl rfl (fun _ => freeHead ?_)) | refine Pw.list (Pw.alloc rfl rfl rfl rfl rfl (fun _ => ?_)) | refine Pw.list (Pw.build rfl rfl rfl rfl ?_) | refine Pw.list (Pw.ld rfl inferInstance rfl rfl rfl ?_) | refine Pw.list (Pw.sto rfl rfl inferInstance rfl rfl rfl rfl rfl inferInstance rfl ?_))
    exact Pw.ret_ (x := ()) (.tmp rfl .nil) rfl trivial (fun w h => by trivial)
end Go.Proofs.Wk
/- Walks of the reference's fractions: reckoning. -/
namespace Go.Proofs.Wk
open Go.RowKit
set_option maxRecDepth 100000
attribute [local irreducible] Pw OpG
set_option linter.unusedVariables false
set_option linter.unusedSimpArgs false
end Go.Proofs.Wk
/- Walks of the laws of layer 2: their helpers. -/
namespace Go.Proofs.Wk
open Go.RowKit
set_option maxRecDepth 100000
attribute [local irreducible] Pw OpG
set_option linter.unusedVariables false
set_option linter.unusedSimpArgs false
theorem Theirs_ct (a b : List Int) (z : Z2) : Ct Try.prog 12 #[rt a b z] (fun _ => True) (fun _ : Unit => rt a b z) Tt (fun _ _ => True) := by
  refine Ct.start Try.func12 rfl rfl (slots_of rfl slots1) (fun D w0 => ?_)
  repeat (first | (with_reducible first | refine Pw.seq ?_ | refine Pw.region ?_ | refine Pw.nil ?_ | refine Pw.then_ ?_ | refine Pw.skip ?_ | refine Pw.block ?_ | refine Pw.exit ?_ | refine Pw.inX ?_ | refine Pw.inN ?_ | refine Pw.inR ?_ | refine Pw.thenX ?_ | refine Pw.thenR ?_ | refine Pw.ret ?_) | refine Pw.list (Pw.pure rfl rfl rfl ?_) | refine Pw.inY rfl ?_ | refine Pw.list (Pw.off rfl rfl ?_) | refine Pw.condT rfl ?_ | refine Pw.condF rfl ?_ | refine Pw.list (Pw.box rfl rfl rfl rfl (fun _ => freeHead ?_)) | refine Pw.list (Pw.alloc rfl rfl rfl rfl rfl (fun _ => ?_)) | refine Pw.list (Pw.build rfl rfl rfl rfl ?_) | refine Pw.list (Pw.ld rfl inferInstance rfl rfl rfl ?_) | refine Pw.list (Pw.sto rfl rfl inferInstance rfl rfl rfl rfl rfl inferInstance rfl ?_))
  exact Pw.ret_ (x := ()) (.cell rfl (fun w hs => hs.own _ (.head _)) rfl .nil) rfl trivial (fun w h => by trivial)
theorem Ours_ct (a b : List Int) (z : Z2) : Ct Try.prog 30 #[rt a b z] (fun _ => True) (fun _ : Unit => rt a b z) Tt (fun _ _ => True) := by
  refine Ct.start Try.func30 rfl rfl (slots_of rfl slots1) (fun D w0 => ?_)
  repeat (first | (with_reducible first | refine Pw.seq ?_ | refine Pw.region ?_ | refine Pw.nil ?_ | refine Pw.then_ ?_ | refine Pw.skip ?_ | refine Pw.block ?_ | refine Pw.exit ?_ | refine Pw.inX ?_ | refine Pw.inN ?_ | refine Pw.inR ?_ | refine Pw.thenX ?_ | refine Pw.thenR ?_ | refine Pw.ret ?_) | refine Pw.list (Pw.pure rfl rfl rfl ?_) | refine Pw.inY rfl ?_ | refine Pw.list (Pw.off rfl rfl ?_) | refine Pw.condT rfl ?_ | refine Pw.condF rfl ?_ | refine Pw.list (Pw.box rfl rfl rfl rfl (fun _ => freeHead ?_)) | refine Pw.list (Pw.alloc rfl rfl rfl rfl rfl (fun _ => ?_)) | refine Pw.list (Pw.build rfl rfl rfl rfl ?_) | refine Pw.list (Pw.ld rfl inferInstance rfl rfl rfl ?_) | refine Pw.list (Pw.sto rfl rfl inferInstance rfl rfl rfl rfl rfl inferInstance rfl ?_))
  exact Pw.ret_ (x := ()) (.cell rfl (fun w hs => hs.own _ (.head _)) rfl .nil) rfl trivial (fun w h => by trivial)
theorem rat_Same_ct (a b : List Int) (y z : Z2) (ha : Fm a) (hb : Fm b) (la : a.length < 1048576) (lb : b.length < 1048576) :
    Ct Try.prog 13 #[rt a b y, rt a b z] (fun W => R2 a b y W ∧ R2 a b z W) (fun _ : Unit => .bool true) Tt (fun _ _ => True) := by
  refine Ct.start Try.func13 rfl rfl (slots_of rfl slots2) (fun D w0 => Pw.facts two2 ?_)
  repeat (first | (with_reducible first | refine Pw.seq ?_ | refine Pw.region ?_ | refine Pw.nil ?_ | refine Pw.then_ ?_ | refine Pw.skip ?_ | refine Pw.block ?_ | refine Pw.exit ?_ | refine Pw.inX ?_ | refine Pw.inN ?_ | refine Pw.inR ?_ | refine Pw.thenX ?_ | refine Pw.thenR ?_ | refine Pw.ret ?_) | refine Pw.list (Pw.pure rfl rfl rfl ?_) | refine Pw.inY rfl ?_ | refine Pw.list (Pw.off rfl rfl ?_) | refine Pw.condT rfl ?_ | refine Pw.condF rfl ?_ | refine Pw.list (Pw.box rfl rfl rfl rfl (fun _ => freeHead ?_)) | refine Pw.list (Pw.alloc rfl rfl rfl rfl rfl (fun _ => ?_)) | refine Pw.list (Pw.build rfl rfl rfl rfl ?_) | refine Pw.list (Pw.ld rfl inferInstance rfl rfl rfl ?_) | refine Pw.list (Pw.sto rfl rfl inferInstance rfl rfl rfl rfl rfl inferInstance rfl ?_))
  have hs := SameRatio_ct a b a b y z ha hb ha hb la lb la lb
  rw [decide_eq_true rfl, decide_eq_true rfl] at hs
  refine Pw.drawnG mixed rfl rfl ?_
  refine Pw.takeF 0 (nb 5 1) rfl rfl inferInstance rfl rfl rfl (by kernel_rfl) np sf ?_
  refine Pw.takeF 2 (nb 5 5) rfl rfl inferInstance rfl rfl rfl (by kernel_rfl) np sf ?_
  refine Pw.one 1 (nb 5 7) rfl (by kernel_rfl) ?_
  refine Pw.call (Ours_ct a b y) rfl rfl rfl (by kernel_rfl) rfl rfl (fun w h => trivial) ?_
  intro _ _
  refine Pw.held sf ?_
  refine Pw.one 3 (nb 5 15) rfl (by kernel_rfl) ?_
  refine Pw.call hs rfl rfl rfl (by kernel_rfl) rfl rfl (fun w h => ⟨(by first | exact fact3 h | exact fact3 (allTail h) | exact fact2 h), (by first | exact fact3 (allTail h) | exact fact3 h)⟩) ?_
  intro _ _
  refine Pw.held sf ?_
  refine Pw.takeP 4 (nb 5 31) rfl rfl rfl rfl (by kernel_rfl) np sf ?_
  refine Pw.done (by kernel_rfl) ?_
  skip
  repeat (first | (with_reducible first | refine Pw.seq ?_ | refine Pw.region ?_ | refine Pw.nil ?_ | refine Pw.then_ ?_ | refine Pw.skip ?_ | refine Pw.block ?_ | refine Pw.exit ?_ | refine Pw.inX ?_ | refine Pw.inN ?_ | refine Pw.inR ?_ | refine Pw.thenX ?_ | refine Pw.thenR ?_ | refine Pw.ret ?_) | refine Pw.list (Pw.pure rfl rfl rfl ?_) | refine Pw.inY rfl ?_ | refine Pw.list (Pw.off rfl rfl ?_) | refine Pw.condT rfl ?_ | refine Pw.condF rfl ?_)
  exact Pw.ret_ (x := ()) (.tmp rfl .nil) rfl trivial (fun w h => by trivial)
end Go.Proofs.Wk
/- The law RatioProducts walked. -/
namespace Go.Proofs.Wk
open Go.RowKit
set_option maxRecDepth 100000
set_option maxHeartbeats 4000000
attribute [local irreducible] Pw OpG
set_option linter.unusedVariables false
set_option linter.unusedSimpArgs false
end Go.Proofs.Wk
/- Walks of the reference's fractions: comparing, adding, subtracting, the lesser one. -/
namespace Go.Proofs.Wk
open Go.RowKit
set_option maxRecDepth 100000
set_option maxHeartbeats 4000000
attribute [local irreducible] Pw OpG
set_option linter.unusedVariables false
set_option linter.unusedSimpArgs false
end Go.Proofs.Wk
/- The law RatioSums walked. -/
namespace Go.Proofs.Wk
open Go.RowKit
set_option maxRecDepth 100000
set_option maxHeartbeats 4000000
attribute [local irreducible] Pw OpG
set_option linter.unusedVariables false
set_option linter.unusedSimpArgs false
end Go.Proofs.Wk
/- Snapshots as data: what the walks of layer 10 say of them. -/
namespace Go.Proofs.Wk
open Go.RowKit
set_option linter.unusedVariables false
set_option linter.unusedSimpArgs false
structure Vtr where
  id : Int
  st : Int
  pk : List Int
  z : Option Addr × Nat
abbrev gL1 (s : Gr) (cells : List Value) (e : TypeId) : List Blk := gL s cells e ++ []
structure Sn where
  vs : List Vtr
  zv : Option Addr × Nat
  cs : List Int
  zc : Option Addr × Nat
theorem get_at {α : Type} {l : List α} {i : Nat} (h : i < l.length) : ∃ x, l[i]? = some x ∧ x ∈ l := ⟨l[i], List.getElem?_eq_getElem h, List.getElem_mem h⟩
/-! ### Rising lists -/
theorem top63 {n : Nat} (h : n ≤ maxLen) : n ≤ 9223372036854775807 := by simpa [maxLen] using h
theorem i64s {i n : Nat} (h : i < n) (hn : n ≤ 9223372036854775807) : wrap64 ((i : Int) + 1) = ((i + 1 : Nat) : Int) := by unfold wrap64; omega
/-! ### Formed snapshots -/
theorem take_snoc {α : Type} {l : List α} {i : Nat} {x : α} (h : l[i]? = some x) : l.take (i + 1) = l.take i ++ [x] := by
  rw [List.take_add_one, h]; rfl
end Go.Proofs.Wk
/- Shares: plain facts of what members are given. -/
namespace Go.Proofs.Wk
open Go.RowKit
set_option linter.unusedVariables false
set_option linter.unusedSimpArgs false
structure Shr where
  v : Int
  c : Int
  a : List Int
  b : List Int
  z : Z2
structure ShrW (s : Shr) : Prop where
  a : Lm s.a
  b : Lm s.b
structure Rt where
  a : List Int
  b : List Int
  z : Z2
def encR (r : Rt) : List Value := [sl r.a r.z.1, sl r.b r.z.2]
def heldR (r : Rt) (W : World) : Prop := R2 r.a r.b r.z W
abbrev RS (l : List Rt) (x : Option Addr × Nat) : World → Prop := Rows (RR encR heldR) 2 l x.1 x.2
abbrev rsV (l : List Rt) (x : Option Addr × Nat) : Value := .slice x.1 l.length x.2
def cellsR (l : List Rt) : List Value := l.flatMap encR
theorem encR_one (s : Rt) : ∀ u ∈ encR s, u.oneCell' = true := by
  intro u hu
  unfold encR at hu
  simp only [List.mem_cons, List.not_mem_nil, or_false] at hu
  rcases hu with rfl | rfl <;> rfl
abbrev R3t := List Int × List Int × Int
structure R3ok (t : R3t) : Prop where
  a : Fm t.1
  b : Fm t.2.1
  la : t.1.length < 1048576
  lb : t.2.1.length < 1048576
end Go.Proofs.Wk
/- Walks of layer 10 (graph): rising, money.Add. -/
namespace Go.Proofs.Wk
open Go.RowKit
set_option maxRecDepth 100000
attribute [local irreducible] Pw OpG
set_option linter.unusedVariables false
set_option linter.unusedSimpArgs false
end Go.Proofs.Wk
/- Walks of layer 10 (graph): Formed. -/
namespace Go.Proofs.Wk
open Go.RowKit
set_option maxRecDepth 100000
set_option maxHeartbeats 1000000
attribute [local irreducible] Pw OpG
set_option linter.unusedVariables false
set_option linter.unusedSimpArgs false
end Go.Proofs.Wk
/- Walks of layer 10 (graph): finding, approving. -/
namespace Go.Proofs.Wk
open Go.RowKit
set_option maxRecDepth 100000
set_option maxHeartbeats 1000000
attribute [local irreducible] Pw OpG
set_option linter.unusedVariables false
set_option linter.unusedSimpArgs false
theorem below_snoc {α : Type} {l : List α} {p : α → Bool} {i : Nat} {x : α} (h : ∀ j, j < i → ∀ y, l[j]? = some y → p y = false) (hx : l[i]? = some x) (hp : p x = false) : ∀ j, j < i + 1 → ∀ y, l[j]? = some y → p y = false := fun j hj y hy => by
  rcases Nat.lt_or_ge j i with h' | h'
  · exact h j h' y hy
  · obtain rfl : j = i := by omega
    rw [hx] at hy; cases hy; exact hp
theorem below_all {α : Type} {l : List α} {p : α → Bool} {i : Nat} (h : ∀ j, j < i → ∀ y, l[j]? = some y → p y = false) (hi : l.length ≤ i) : ∀ (j : Nat) (y : α), l[j]? = some y → p y = false := fun j y hy => h j (Nat.lt_of_lt_of_le (List.getElem?_eq_some_iff.1 hy).1 hi) y hy
end Go.Proofs.Wk
/- Shares: helpers walked. -/
namespace Go.Proofs.Wk
open Go.RowKit
set_option maxRecDepth 100000
set_option maxHeartbeats 1000000
attribute [local irreducible] Pw OpG
set_option linter.unusedVariables false
set_option linter.unusedSimpArgs false
theorem ofN1_len : (ofN 1).length ≠ 0 := fun h => by have := (ofN_zero (n := 1) (by omega) (by omega)).1 h; omega
end Go.Proofs.Wk
/- Shares: phragmen.Supports walked. -/
namespace Go.Proofs.Wk
open Go.RowKit
set_option maxRecDepth 100000
set_option maxHeartbeats 2000000
attribute [local irreducible] Pw OpG
set_option linter.unusedVariables false
set_option linter.unusedSimpArgs false
abbrev AllR (l : List Rt) (W : World) : Prop := ∀ r ∈ l, heldR r W
abbrev gL3 (q : Gr) (c : List Value) (t : TypeId) (b : Blk) : List Blk := b :: gL1 q c t
theorem cellsR_snoc (l : List Rt) (r : Rt) : cellsR (l ++ [r]) = cellsR l ++ encR r := by unfold cellsR; simp
end Go.Proofs.Wk
/- Shares: psephoslaw11.Few, Theirs; the document's Supports. -/
namespace Go.Proofs.Wk
open Go.RowKit
set_option maxRecDepth 100000
set_option maxHeartbeats 2000000
attribute [local irreducible] Pw OpG
set_option linter.unusedVariables false
set_option linter.unusedSimpArgs false
end Go.Proofs.Wk
/- Shares: the document's Supports walked. -/
namespace Go.Proofs.Wk
open Go.RowKit
set_option maxRecDepth 100000
set_option maxHeartbeats 4000000
attribute [local irreducible] Pw OpG
set_option linter.unusedVariables false
set_option linter.unusedSimpArgs false
end Go.Proofs.Wk
/- Weights made whole: helpers walked. -/
namespace Go.Proofs.Wk
open Go.RowKit
set_option maxRecDepth 100000
set_option maxHeartbeats 1000000
attribute [local irreducible] Pw OpG
set_option linter.unusedVariables false
set_option linter.unusedSimpArgs false
theorem IndexR_ct (l : List Rt) (x : Option Addr × Nat) (f : FuncId) (p : Rt → Bool) (hf : ∀ v ∈ l, Ct Try.prog f #[rt v.a v.b v.z] (heldR v) (fun _ : Unit => .bool (p v)) Tt (fun _ _ => True)) (hcb : callB Try.prog f = true) :
    Ct Try.prog 33 #[rsV l x, .func (.func f) #[] #[]] (RS l x) (fun _ : Unit => .int .i64 (ixI p l)) Tt (fun _ _ => True) := by
  obtain ⟨A, c⟩ := x
  refine Ct.start Try.func33 rfl rfl (slots_of rfl slots2) (fun D w0 => ?_)
  refine Pw.use (p := l.length ≤ maxLen) (fun w h => (fact0 h).top) (fun htop => ?_)
  have htop := top63 htop
  repeat (first | (with_reducible first | refine Pw.seq ?_ | refine Pw.region ?_ | refine Pw.nil ?_ | refine Pw.then_ ?_ | refine Pw.skip ?_ | refine Pw.block ?_ | refine Pw.exit ?_ | refine Pw.inX ?_ | refine Pw.inN ?_ | refine Pw.inR ?_ | refine Pw.thenX ?_ | refine Pw.thenR ?_ | refine Pw.ret ?_) | refine Pw.list (Pw.pure rfl rfl rfl ?_) | refine Pw.inY rfl ?_ | refine Pw.list (Pw.off rfl rfl ?_) | refine Pw.condT rfl ?_ | refine Pw.condF rfl ?_)
  refine Pw.loopJ (σ := Nat) (fun i => i ≤ l.length ∧ ∀ j, j < i → ∀ y, l[j]? = some y → p y = false) (fun i => ⟨[(0, .slice A l.length c), (1, .func (.func f) #[] #[]), (7, .int .i64 l.length), (8, .int .i64 i)], [], [RS l (A, c)]⟩) (fun i => l.length - i) 0 ⟨Nat.zero_le _, fun j hj => absurd hj (Nat.not_lt_zero j)⟩ (Pw.enter ⟨rfl, rfl, rfl, rfl, trivial⟩ (fun _ h => h)) ?_
  rintro i ⟨hi, hj⟩
  dsimp only at hi hj ⊢
  repeat (first | (with_reducible first | refine Pw.seq ?_ | refine Pw.region ?_ | refine Pw.nil ?_ | refine Pw.then_ ?_ | refine Pw.skip ?_ | refine Pw.block ?_ | refine Pw.exit ?_ | refine Pw.inX ?_ | refine Pw.inN ?_ | refine Pw.inR ?_ | refine Pw.thenX ?_ | refine Pw.thenR ?_ | refine Pw.ret ?_) | refine Pw.list (Pw.pure rfl rfl rfl ?_) | refine Pw.inY rfl ?_ | refine Pw.list (Pw.off rfl rfl ?_) | refine Pw.condT rfl ?_ | refine Pw.condF rfl ?_)
  refine Pw.condD rfl (fun c3 => ?_) (fun c3 => ?_)
  · obtain ⟨v, hvi, hm⟩ := get_at (show i < l.length by omega)
    repeat (first | (with_reducible first | refine Pw.seq ?_ | refine Pw.region ?_ | refine Pw.nil ?_ | refine Pw.then_ ?_ | refine Pw.skip ?_ | refine Pw.block ?_ | refine Pw.exit ?_ | refine Pw.inX ?_ | refine Pw.inN ?_ | refine Pw.inR ?_ | refine Pw.thenX ?_ | refine Pw.thenR ?_ | refine Pw.ret ?_) | refine Pw.list (Pw.pure rfl rfl rfl ?_) | refine Pw.inY rfl ?_ | refine Pw.list (Pw.off rfl rfl ?_) | refine Pw.condT rfl ?_ | refine Pw.condF rfl ?_)
    refine Pw.list (Pw.index rfl rfl rfl rfl (Int.natCast_nonneg i) c3 (fun w h => (fact0 h).has (Int.natCast_nonneg i) c3) rfl rfl ?_)
    rintro ad rfl
    refine Pw.list (Pw.loadR v rfl inferInstance rfl (by rw [Int.toNat_natCast]; exact hvi) (by kernel_rfl) rfl rfl ?_)
    refine Pw.re (d := 15) (v' := rt v.a v.b v.z) rfl rfl ?_
    repeat (first | (with_reducible first | refine Pw.seq ?_ | refine Pw.region ?_ | refine Pw.nil ?_ | refine Pw.then_ ?_ | refine Pw.skip ?_ | refine Pw.block ?_ | refine Pw.exit ?_ | refine Pw.inX ?_ | refine Pw.inN ?_ | refine Pw.inR ?_ | refine Pw.thenX ?_ | refine Pw.thenR ?_ | refine Pw.ret ?_) | refine Pw.list (Pw.pure rfl rfl rfl ?_) | refine Pw.inY rfl ?_ | refine Pw.list (Pw.off rfl rfl ?_) | refine Pw.condT rfl ?_ | refine Pw.condF rfl ?_)
    refine Pw.list (Pw.call (hf v hm) rfl rfl rfl hcb rfl rfl (fun w h => fact0 h) ?_)
    intro _ _
    cases hp : p v
    · repeat (first | (with_reducible first | refine Pw.seq ?_ | refine Pw.region ?_ | refine Pw.nil ?_ | refine Pw.then_ ?_ | refine Pw.skip ?_ | refine Pw.block ?_ | refine Pw.exit ?_ | refine Pw.inX ?_ | refine Pw.inN ?_ | refine Pw.inR ?_ | refine Pw.thenX ?_ | refine Pw.thenR ?_ | refine Pw.ret ?_) | refine Pw.list (Pw.pure rfl rfl rfl ?_) | refine Pw.inY rfl ?_ | refine Pw.list (Pw.off rfl rfl ?_) | refine Pw.condT rfl ?_ | refine Pw.condF rfl ?_)
      refine Pw.re (d := 8) (v' := .int .i64 ((i + 1 : Nat) : Int)) rfl (congrArg (Value.int .i64) (i64s (by omega) htop)) ?_
      exact Pw.again (i + 1) ⟨by omega, below_snoc hj hvi hp⟩ (by show l.length - (i + 1) < l.length - i; omega) ⟨rfl, rfl, rfl, rfl, trivial⟩ rfl (fun w h => allCons (fact2 h) allNil)
    · repeat (first | (with_reducible first | refine Pw.seq ?_ | refine Pw.region ?_ | refine Pw.nil ?_ | refine Pw.then_ ?_ | refine Pw.skip ?_ | refine Pw.block ?_ | refine Pw.exit ?_ | refine Pw.inX ?_ | refine Pw.inN ?_ | refine Pw.inR ?_ | refine Pw.thenX ?_ | refine Pw.thenR ?_ | refine Pw.ret ?_) | refine Pw.list (Pw.pure rfl rfl rfl ?_) | refine Pw.inY rfl ?_ | refine Pw.list (Pw.off rfl rfl ?_) | refine Pw.condT rfl ?_ | refine Pw.condF rfl ?_)
      exact Pw.ret_ (x := ()) (.tmp rfl .nil) (congrArg (Value.int .i64) (ixI_hit hvi hp hj).symm) trivial (fun w h => by trivial)
  · repeat (first | (with_reducible first | refine Pw.seq ?_ | refine Pw.region ?_ | refine Pw.nil ?_ | refine Pw.then_ ?_ | refine Pw.skip ?_ | refine Pw.block ?_ | refine Pw.exit ?_ | refine Pw.inX ?_ | refine Pw.inN ?_ | refine Pw.inR ?_ | refine Pw.thenX ?_ | refine Pw.thenR ?_ | refine Pw.ret ?_) | refine Pw.list (Pw.pure rfl rfl rfl ?_) | refine Pw.inY rfl ?_ | refine Pw.list (Pw.off rfl rfl ?_) | refine Pw.condT rfl ?_ | refine Pw.condF rfl ?_)
    exact Pw.ret_ (x := ()) (.tmp rfl .nil) (congrArg (Value.int .i64) (ixI_none (below_all hj (by omega))).symm) trivial (fun w h => by trivial)
theorem ContainsR_ct (l : List Rt) (x : Option Addr × Nat) (f : FuncId) (p : Rt → Bool) (hf : ∀ v ∈ l, Ct Try.prog f #[rt v.a v.b v.z] (heldR v) (fun _ : Unit => .bool (p v)) Tt (fun _ _ => True)) (hcb : callB Try.prog f = true) :
    Ct Try.prog 15 #[rsV l x, .func (.func f) #[] #[]] (RS l x) (fun _ : Unit => .bool (l.any p)) Tt (fun _ _ => True) := by
  refine Ct.start Try.func15 rfl rfl (slots_of rfl slots2) (fun D w0 => ?_)
  repeat (first | (with_reducible first | refine Pw.seq ?_ | refine Pw.region ?_ | refine Pw.nil ?_ | refine Pw.then_ ?_ | refine Pw.skip ?_ | refine Pw.block ?_ | refine Pw.exit ?_ | refine Pw.inX ?_ | refine Pw.inN ?_ | refine Pw.inR ?_ | refine Pw.thenX ?_ | refine Pw.thenR ?_ | refine Pw.ret ?_) | refine Pw.list (Pw.pure rfl rfl rfl ?_) | refine Pw.inY rfl ?_ | refine Pw.list (Pw.off rfl rfl ?_) | refine Pw.condT rfl ?_ | refine Pw.condF rfl ?_)
  refine Pw.list (Pw.call (IndexR_ct l x f p hf hcb) rfl rfl rfl (by kernel_rfl) rfl rfl (fun w h => fact0 h) ?_)
  intro _ _
  repeat (first | (with_reducible first | refine Pw.seq ?_ | refine Pw.region ?_ | refine Pw.nil ?_ | refine Pw.then_ ?_ | refine Pw.skip ?_ | refine Pw.block ?_ | refine Pw.exit ?_ | refine Pw.inX ?_ | refine Pw.inN ?_ | refine Pw.inR ?_ | refine Pw.thenX ?_ | refine Pw.thenR ?_ | refine Pw.ret ?_) | refine Pw.list (Pw.pure rfl rfl rfl ?_) | refine Pw.inY rfl ?_ | refine Pw.list (Pw.off rfl rfl ?_) | refine Pw.condT rfl ?_ | refine Pw.condF rfl ?_)
  exact Pw.ret_ (x := ()) (.tmp rfl .nil) (congrArg Value.bool (by
    rcases ixI_cases p l with ⟨h1, h2⟩ | ⟨i, y, h1, h2, h3, h4⟩
    · rw [h1, decide_eq_false (by omega)]
      rw [List.find?_eq_none] at h2
      symm; rw [List.any_eq_false]; exact fun y hy => h2 y hy
    · rw [h1, decide_eq_true (by omega)]
      symm; rw [List.any_eq_true]; exact ⟨y, List.mem_of_getElem? h2, h3⟩)) trivial (fun w h => by trivial)
structure RtW (r : Rt) : Prop where
  a : Lm r.a
  b : Lm r.b
/-- A weight's place, and its rest. -/
structure On where
  at_ : Int
  a : List Int
  b : List Int
  z : Z2
end Go.Proofs.Wk
/- Weights made whole: the document's difference. -/
namespace Go.Proofs.Wk
open Go.RowKit
set_option maxRecDepth 100000
set_option maxHeartbeats 1000000
attribute [local irreducible] Pw OpG
set_option linter.unusedVariables false
set_option linter.unusedSimpArgs false
structure MinOk (a b c d : List Int) : Prop where
  ad : (natL (val a * val d)).length ≤ 400
  cb : (natL (val c * val b)).length ≤ 400
  bd : (natL (val b * val d)).length ≤ 400
  le : val c * val b ≤ val a * val d
  pos : 0 < val b * val d
  n : 0 ≤ val a * val d ∧ 0 ≤ val c * val b
end Go.Proofs.Wk
/- What layer 2 and its reference answer, of rational numbers. -/
namespace Go.Proofs.Wk
open Go.RowKit
set_option maxRecDepth 100000
set_option linter.unusedVariables false
set_option linter.unusedSimpArgs false
abbrev qt (x : Rat) (z : Z2) : Value := rt (qn x) (qd x) z
abbrev QW (x : Rat) (z : Z2) (W : World) : Prop := R2 (qn x) (qd x) z W
section
variable {x y : Rat} {m n : Nat} (hx : Sz m x) (hy : Sz n y) (u v : Z2)
include hx hy
theorem qAdd_ct (h : m + n < 400) : Ct Try.prog 10 #[qt x u, qt y v] (fun W => QW x u W ∧ QW y v W) (fun z : Z2 => .tuple #[qt (x + y) z, .int .i64 0]) Tt (fun z => QW (x + y) z) := by
  have h1 := hx.ln; have h2 := hx.ld; have h3 := hy.ln; have h4 := hy.ld
  have hc := rat_Add_ct (qn x) (qd x) (qn y) (qd y) u v (qn_lm x) (qd_lm x) (qn_lm y) (qd_lm y) (by omega) (by omega) (by omega) (by omega)
  rwa [q_add hx hy h] at hc
theorem qSub_ct (h : m + n ≤ 400) (hle : y ≤ x) : Ct Try.prog 21 #[qt x u, qt y v] (fun W => QW x u W ∧ QW y v W) (fun z : Z2 => .tuple #[qt (x - y) z, .int .i64 0]) Tt (fun z => QW (x - y) z) := by
  have h1 := hx.ln; have h2 := hx.ld; have h3 := hy.ln; have h4 := hy.ld
  have hc := rat_Sub_ct (qn x) (qd x) (qn y) (qd y) u v (qn_lm x) (qd_lm x) (qn_lm y) (qd_lm y) (by omega) (by omega) (by omega) (by omega)
  rwa [q_sub hx hy h, if_neg (Rat.not_lt.2 hle)] at hc
theorem qSubLt_ct (h : m + n ≤ 400) (hlt : x < y) : Ct Try.prog 21 #[qt x u, qt y v] (fun W => QW x u W ∧ QW y v W) (fun z : Z2 => .tuple #[rt [] [] z, .int .i64 3]) Tt (fun z => R2 [] [] z) := by
  have h1 := hx.ln; have h2 := hx.ld; have h3 := hy.ln; have h4 := hy.ld
  have hc := rat_Sub_ct (qn x) (qd x) (qn y) (qd y) u v (qn_lm x) (qd_lm x) (qn_lm y) (qd_lm y) (by omega) (by omega) (by omega) (by omega)
  rwa [q_sub hx hy h, if_pos hlt] at hc
theorem qCmp_ct (h : m + n ≤ 400) : Ct Try.prog 11 #[qt x u, qt y v] (fun W => QW x u W ∧ QW y v W) (fun _ : Unit => .int .i64 (cmpQ x y)) Tt (fun _ _ => True) := by
  have h1 := hx.ln; have h2 := hx.ld; have h3 := hy.ln; have h4 := hy.ld
  have hc := rat_Cmp_ct (qn x) (qd x) (qn y) (qd y) u v (qn_lm x) (qd_lm x) (qn_lm y) (qd_lm y) (by omega) (by omega) (by omega) (by omega)
  rwa [q_cmp hx hy h] at hc
theorem qDiv_ct (h : m + n ≤ 400) (h0 : 0 < y) : Ct Try.prog 39 #[qt x u, qt y v] (fun W => QW x u W ∧ QW y v W) (fun z : Z2 => .tuple #[qt (x / y) z, .int .i64 0]) Tt (fun z => QW (x / y) z) := by
  have h1 := hx.ln; have h2 := hx.ld; have h3 := hy.ln; have h4 := hy.ld
  have hc := rat_Div_ct (qn x) (qd x) (qn y) (qd y) u v (qn_lm x) (qd_lm x) (qn_lm y) (qd_lm y) (by omega) (by omega) (by omega) (by omega)
  rwa [q_div hx hy h h0] at hc
end
theorem qOf_ct {n : Int} (h : 0 ≤ n) (h' : n ≤ 18446744073709551615) : Ct Try.prog 9 #[.int .u64 n, .int .u64 1] (fun _ => True) (fun z : Z2 => .tuple #[qt (n : Rat) z, .int .i64 0]) Tt (fun z => QW (n : Rat) z) := by
  have hc := rat_Of_ct n 1
  rwa [q_of1 h h'] at hc
/-- A weight that is formed is a number's fraction. -/
def rq (s : Rt) : Rat := rv s.a s.b
end Go.Proofs.Wk
/- Fractions sorted: the insertion sort walked. -/
namespace Go.Proofs.Wk
open Go.RowKit
set_option maxRecDepth 100000
set_option maxHeartbeats 2000000
attribute [local irreducible] Pw OpG
set_option linter.unusedVariables false
set_option linter.unusedSimpArgs false
def cfR (p q : Rt) : Int := rcmpS p.a p.b q.a q.b
structure RtL (o : Rt) : Prop where
  m : Lm o.a ∧ Lm o.b
  l : o.a.length < 1048576 ∧ o.b.length < 1048576
abbrev rtV (o : Rt) : Value := rt o.a o.b o.z
theorem rcf_ct (p q : Rt) (hp : RtL p) (hq : RtL q) : Ct Try.prog 11 #[rtV p, rtV q] (fun W => heldR p W ∧ heldR q W) (fun _ : Unit => .int .i64 (cfR p q)) Tt (fun _ _ => True) :=
  rat_Cmp_ct p.a p.b q.a q.b p.z q.z hp.m.1 hp.m.2 hq.m.1 hq.m.2 hp.l.1 hp.l.2 hq.l.1 hq.l.2
def swapR (l : List Rt) (j : Nat) (x y : Rt) : List Rt := (l.set (j + 1) y).set j x
def sinkR : Nat → List Rt → List Rt
  | 0, l => l
  | j + 1, l => match l[j + 1]?, l[j]? with
    | some x, some y => if cfR x y < 0 then sinkR j (swapR l j x y) else l
    | _, _ => l
def insR (i : Nat) (l : List Rt) : List Rt := (List.range i).foldl (fun l k => sinkR k l) l
theorem insR_succ (i : Nat) (l : List Rt) : insR (i + 1) l = sinkR i (insR i l) := by unfold insR; rw [List.range_succ, List.foldl_append]; rfl
theorem swapR_mem {l : List Rt} {j : Nat} {x y z : Rt} (hx : x ∈ l) (hy : y ∈ l) (hz : z ∈ swapR l j x y) : z ∈ l := by
  unfold swapR at hz
  rcases List.mem_or_eq_of_mem_set hz with h | rfl
  · rcases List.mem_or_eq_of_mem_set h with h | rfl
    · exact h
    · exact hy
  · exact hx
theorem swapR_len (l : List Rt) (j : Nat) (x y : Rt) : (swapR l j x y).length = l.length := by unfold swapR; rw [List.length_set, List.length_set]
theorem encR_len (o : Rt) : (encR o).length = 2 := rfl
def AllR1 (l : List Rt) (W : World) : Prop := ∀ o ∈ l, heldR o W
theorem insertionR_ct (l : List Rt) (ex : List Value) (g c n : Nat) (hw : ∀ o ∈ l, RtL o) (hn : n ≤ l.length) (hl : l.length ≤ 1000) (hn1 : 1 ≤ n) :
    Ct1 Try.prog 68 #[.slice (some ⟨g, 0, none⟩) l.length c, .int .i64 0, .int .i64 n, .func (.func 11) #[] #[]] g (row (l.flatMap encR ++ ex) 34) (AllR1 l) (fun _ : Unit => .tuple #[]) Tt (fun _ => row ((insR n l).flatMap encR ++ ex) 34) (fun _ _ => True) := by
  refine Ct1.start Try.func68 rfl rfl (slots_of rfl slots4) (fun D w0 hD => ?_)
  repeat (first | (with_reducible first | refine Pw.seq ?_ | refine Pw.region ?_ | refine Pw.nil ?_ | refine Pw.then_ ?_ | refine Pw.skip ?_ | refine Pw.block ?_ | refine Pw.exit ?_ | refine Pw.inX ?_ | refine Pw.inN ?_ | refine Pw.inR ?_ | refine Pw.thenX ?_ | refine Pw.thenR ?_ | refine Pw.ret ?_) | refine Pw.list (Pw.pure rfl rfl rfl ?_) | refine Pw.inY rfl ?_ | refine Pw.list (Pw.off rfl rfl ?_) | refine Pw.condT rfl ?_ | refine Pw.condF rfl ?_ | refine Pw.list (Pw.box rfl rfl rfl rfl (fun _ => ?_)) | refine Pw.list (Pw.alloc rfl rfl rfl rfl rfl (fun _ => ?_)) | refine Pw.list (Pw.build rfl rfl rfl rfl ?_) | refine Pw.list (Pw.ld rfl inferInstance rfl rfl rfl ?_) | refine Pw.list (Pw.sto rfl rfl inferInstance rfl rfl rfl rfl rfl inferInstance rfl ?_))
  refine Pw.re (d := 8) (v' := .int .i64 ((1 : Nat) : Int)) rfl (congrArg (Value.int .i64) (by unfold wrap64; omega)) ?_
  refine Pw.loopJ (σ := Nat × List Rt) (fun t => 1 ≤ t.1 ∧ t.1 ≤ n ∧ t.2 = insR t.1 l ∧ t.2.length = l.length ∧ ∀ o ∈ t.2, o ∈ l) (fun t => ⟨[(0, .slice (some ⟨g, 0, none⟩) l.length c), (1, .int .i64 0), (2, .int .i64 n), (3, .func (.func 11) #[] #[]), (8, .int .i64 t.1)], [⟨g, row (t.2.flatMap encR ++ ex) 34⟩], [AllR1 l]⟩) (fun t => n - t.1) (1, l) ⟨Nat.le_refl _, hn1, rfl, rfl, fun o h => h⟩ (Pw.enter ⟨rfl, rfl, rfl, rfl, rfl, trivial⟩ (fun w h => h)) ?_
  rintro ⟨i, m⟩ ⟨hi1, hi2, hm, hml, hmm⟩
  dsimp only at hi1 hi2 hm hml hmm ⊢
  repeat (first | (with_reducible first | refine Pw.seq ?_ | refine Pw.region ?_ | refine Pw.nil ?_ | refine Pw.then_ ?_ | refine Pw.skip ?_ | refine Pw.block ?_ | refine Pw.exit ?_ | refine Pw.inX ?_ | refine Pw.inN ?_ | refine Pw.inR ?_ | refine Pw.thenX ?_ | refine Pw.thenR ?_ | refine Pw.ret ?_) | refine Pw.list (Pw.pure rfl rfl rfl ?_) | refine Pw.inY rfl ?_ | refine Pw.list (Pw.off rfl rfl ?_) | refine Pw.condT rfl ?_ | refine Pw.condF rfl ?_ | refine Pw.list (Pw.box rfl rfl rfl rfl (fun _ => ?_)) | refine Pw.list (Pw.alloc rfl rfl rfl rfl rfl (fun _ => ?_)) | refine Pw.list (Pw.build rfl rfl rfl rfl ?_) | refine Pw.list (Pw.ld rfl inferInstance rfl rfl rfl ?_) | refine Pw.list (Pw.sto rfl rfl inferInstance rfl rfl rfl rfl rfl inferInstance rfl ?_))
  refine Pw.condD rfl (fun c3 => ?_) (fun c3 => ?_)
  · repeat (first | (with_reducible first | refine Pw.seq ?_ | refine Pw.region ?_ | refine Pw.nil ?_ | refine Pw.then_ ?_ | refine Pw.skip ?_ | refine Pw.block ?_ | refine Pw.exit ?_ | refine Pw.inX ?_ | refine Pw.inN ?_ | refine Pw.inR ?_ | refine Pw.thenX ?_ | refine Pw.thenR ?_ | refine Pw.ret ?_) | refine Pw.list (Pw.pure rfl rfl rfl ?_) | refine Pw.inY rfl ?_ | refine Pw.list (Pw.off rfl rfl ?_) | refine Pw.condT rfl ?_ | refine Pw.condF rfl ?_ | refine Pw.list (Pw.box rfl rfl rfl rfl (fun _ => ?_)) | refine Pw.list (Pw.alloc rfl rfl rfl rfl rfl (fun _ => ?_)) | refine Pw.list (Pw.build rfl rfl rfl rfl ?_) | refine Pw.list (Pw.ld rfl inferInstance rfl rfl rfl ?_) | refine Pw.list (Pw.sto rfl rfl inferInstance rfl rfl rfl rfl rfl inferInstance rfl ?_))
    refine Pw.loopJ (σ := Nat × List Rt) (fun t => t.1 ≤ i ∧ sinkR t.1 t.2 = sinkR i m ∧ t.2.length = l.length ∧ ∀ o ∈ t.2, o ∈ l) (fun t => ⟨[(0, .slice (some ⟨g, 0, none⟩) l.length c), (1, .int .i64 0), (2, .int .i64 n), (3, .func (.func 11) #[] #[]), (8, .int .i64 i), (9, .int .i64 t.1)], [⟨g, row (t.2.flatMap encR ++ ex) 34⟩], [AllR1 l]⟩) (fun t => t.1) (i, m) ⟨Nat.le_refl _, rfl, hml, hmm⟩ (Pw.enter ⟨rfl, rfl, rfl, rfl, rfl, rfl, trivial⟩ (fun w h => h)) ?_
    rintro ⟨j, k⟩ ⟨hj, hk, hkl, hkm⟩
    dsimp only at hj hk hkl hkm ⊢
    repeat (first | (with_reducible first | refine Pw.seq ?_ | refine Pw.region ?_ | refine Pw.nil ?_ | refine Pw.then_ ?_ | refine Pw.skip ?_ | refine Pw.block ?_ | refine Pw.exit ?_ | refine Pw.inX ?_ | refine Pw.inN ?_ | refine Pw.inR ?_ | refine Pw.thenX ?_ | refine Pw.thenR ?_ | refine Pw.ret ?_) | refine Pw.list (Pw.pure rfl rfl rfl ?_) | refine Pw.inY rfl ?_ | refine Pw.list (Pw.off rfl rfl ?_) | refine Pw.condT rfl ?_ | refine Pw.condF rfl ?_ | refine Pw.list (Pw.box rfl rfl rfl rfl (fun _ => ?_)) | refine Pw.list (Pw.alloc rfl rfl rfl rfl rfl (fun _ => ?_)) | refine Pw.list (Pw.build rfl rfl rfl rfl ?_) | refine Pw.list (Pw.ld rfl inferInstance rfl rfl rfl ?_) | refine Pw.list (Pw.sto rfl rfl inferInstance rfl rfl rfl rfl rfl inferInstance rfl ?_))
    rcases Nat.eq_zero_or_pos j with hj0 | hj0
    · subst hj0
      refine Pw.drawnG mixed rfl rfl ?_
      refine Pw.takeP 0 (nb 17 1) rfl rfl rfl rfl (by kernel_rfl) np sf ?_
      refine Pw.takeP 1 (nb 17 3) rfl rfl rfl rfl (by kernel_rfl) np sf ?_
      refine Pw.takeP 2 (nb 17 7) rfl rfl rfl rfl (by kernel_rfl) np sf ?_
      refine Pw.takeP 3 (nb 17 15) rfl rfl rfl rfl (by kernel_rfl) np sf ?_
      refine Pw.re (d := 21) (v' := .bool false) rfl (congrArg Value.bool (decide_eq_false (by omega))) ?_
      refine Pw.takeO 4 (nb 17 31) rfl rfl rfl (by kernel_rfl) np sf ?_
      refine Pw.takeO 5 (nb 17 63) rfl rfl rfl (by kernel_rfl) np sf ?_
      refine Pw.takeO 6 (nb 17 127) rfl rfl rfl (by kernel_rfl) np sf ?_
      refine Pw.takeO 7 (nb 17 255) rfl rfl rfl (by kernel_rfl) np sf ?_
      refine Pw.takeO 8 (nb 17 511) rfl rfl rfl (by kernel_rfl) np sf ?_
      refine Pw.takeO 9 (nb 17 1023) rfl rfl rfl (by kernel_rfl) np sf ?_
      refine Pw.takeO 10 (nb 17 2047) rfl rfl rfl (by kernel_rfl) np sf ?_
      refine Pw.takeO 11 (nb 17 4095) rfl rfl rfl (by kernel_rfl) np sf ?_
      refine Pw.takeO 12 (nb 17 8191) rfl rfl rfl (by kernel_rfl) np sf ?_
      refine Pw.takeO 13 (nb 17 16383) rfl rfl rfl (by kernel_rfl) np sf ?_
      refine Pw.takeO 14 (nb 17 32767) rfl rfl rfl (by kernel_rfl) np sf ?_
      refine Pw.takeO 15 (nb 17 65535) rfl rfl rfl (by kernel_rfl) np sf ?_
      refine Pw.takeP 16 (nb 17 131071) rfl rfl rfl rfl (by kernel_rfl) np sf ?_
      refine Pw.done (by kernel_rfl) ?_
      repeat (first | (with_reducible first | refine Pw.seq ?_ | refine Pw.region ?_ | refine Pw.nil ?_ | refine Pw.then_ ?_ | refine Pw.skip ?_ | refine Pw.block ?_ | refine Pw.exit ?_ | refine Pw.inX ?_ | refine Pw.inN ?_ | refine Pw.inR ?_ | refine Pw.thenX ?_ | refine Pw.thenR ?_ | refine Pw.ret ?_) | refine Pw.list (Pw.pure rfl rfl rfl ?_) | refine Pw.inY rfl ?_ | refine Pw.list (Pw.off rfl rfl ?_) | refine Pw.condT rfl ?_ | refine Pw.condF rfl ?_ | refine Pw.list (Pw.box rfl rfl rfl rfl (fun _ => ?_)) | refine Pw.list (Pw.alloc rfl rfl rfl rfl rfl (fun _ => ?_)) | refine Pw.list (Pw.build rfl rfl rfl rfl ?_) | refine Pw.list (Pw.ld rfl inferInstance rfl rfl rfl ?_) | refine Pw.list (Pw.sto rfl rfl inferInstance rfl rfl rfl rfl rfl inferInstance rfl ?_))
      refine Pw.re (d := 8) (v' := .int .i64 ((i + 1 : Nat) : Int)) rfl (congrArg (Value.int .i64) (i64s (n := 100000) (by omega) (by omega))) ?_
      exact Pw.again (i + 1, k) ⟨by omega, by omega, by rw [insR_succ, ← hm, ← hk]; rfl, hkl, hkm⟩ (by show n - (i + 1) < n - i; omega) ⟨rfl, rfl, rfl, rfl, rfl, trivial⟩ rfl (fun w h => h)
    · obtain ⟨j, rfl⟩ : ∃ t, j = t + 1 := ⟨j - 1, by omega⟩
      obtain ⟨x, hx, hxm⟩ := get_at (show j + 1 < k.length by omega)
      obtain ⟨y, hy, hym⟩ := get_at (show j < k.length by omega)
      have hw1 : wrap64 (((j + 1 : Nat) : Int) - 1) = ((j : Nat) : Int) := by rw [wi64 (by omega) (by omega)]; omega
      have hw3 : 0 ≤ wrap64 (((j + 1 : Nat) : Int) - 1) := by rw [hw1]; omega
      have hw4 : wrap64 (((j + 1 : Nat) : Int) - 1) < (l.length : Int) := by rw [hw1]; omega
      have hc9 : ((j + 1 : Nat) : Int) < (l.length : Int) := by omega
      have hsk : sinkR (j + 1) k = if cfR x y < 0 then sinkR j (swapR k j x y) else k := by
        show (match k[j + 1]?, k[j]? with | some x, some y => if cfR x y < 0 then sinkR j (swapR k j x y) else k | _, _ => k) = _
        rw [hx, hy]
      refine Pw.joinF (σ := Unit) (fun _ => True) (fun _ => ⟨[(0, .slice (some ⟨g, 0, none⟩) l.length c), (1, .int .i64 0), (2, .int .i64 n), (3, .func (.func 11) #[] #[]), (8, .int .i64 i), (9, .int .i64 ((j + 1 : Nat) : Int)), (34, .bool (decide (cfR x y < 0)))], [⟨g, row (k.flatMap encR ++ ex) 34⟩], [AllR1 l]⟩) ?_ ?_
      · skip
        refine Pw.drawnG mixed rfl rfl ?_
        refine Pw.takeP 0 (nb 17 1) rfl rfl rfl rfl (by kernel_rfl) np sf ?_
        refine Pw.takeP 1 (nb 17 3) rfl rfl rfl rfl (by kernel_rfl) np sf ?_
        refine Pw.takeP 2 (nb 17 7) rfl rfl rfl rfl (by kernel_rfl) np sf ?_
        refine Pw.one 3 (nb 17 15) rfl (by kernel_rfl) ?_
        refine Pw.pure rfl rfl rfl ?_
        refine Pw.re (d := 21) (v' := .bool true) rfl (congrArg Value.bool (decide_eq_true (by omega))) ?_
        refine Pw.held sf ?_
        refine Pw.takeP 4 (nb 17 31) rfl rfl rfl rfl (by kernel_rfl) np sf ?_
        refine Pw.takeP 5 (nb 17 63) rfl rfl rfl rfl (by kernel_rfl) np sf ?_
        refine Pw.takeP 6 (nb 17 127) rfl rfl rfl rfl (by kernel_rfl) np sf ?_
        refine Pw.takeIx 7 (nb 17 255) rfl rfl rfl rfl rfl (by first | assumption | omega) (by first | assumption | omega) rfl rfl (by kernel_rfl) np sf ?_
        refine Pw.takeP 9 (nb 17 767) rfl rfl rfl rfl (by kernel_rfl) np sf ?_
        refine Pw.takeP 10 (nb 17 1791) rfl rfl rfl rfl (by kernel_rfl) np sf ?_
        refine Pw.takeP 11 (nb 17 3839) rfl rfl rfl rfl (by kernel_rfl) np sf ?_
        refine Pw.takeIx 12 (nb 17 7935) rfl rfl rfl rfl rfl (by first | assumption | omega) (by first | assumption | omega) rfl rfl (by kernel_rfl) np sf ?_
        refine Pw.two 8 13 (nb 17 8191) (nb 17 16127) rfl rfl (by kernel_rfl) ?_ ?_
        · skip
          refine Pw.loadRO (l := k) (ex := ex) x rfl encR_len (by rw [Int.toNat_natCast]; exact hx) (fun w hs => hs.own _ (.head _)) (by kernel_rfl) rfl rfl ?_
          refine Pw.re (d := 26) (v' := rtV x) rfl rfl ?_
          refine Pw.held sf ?_
          refine Pw.one 13 (nb 17 16383) rfl (by kernel_rfl) ?_
          refine Pw.loadRO (l := k) (ex := ex) y rfl encR_len (by rw [hw1, Int.toNat_natCast]; exact hy) (fun w hs => hs.own _ (.head _)) (by kernel_rfl) rfl rfl ?_
          refine Pw.re (d := 31) (v' := rtV y) rfl rfl ?_
          refine Pw.held sf ?_
          refine Pw.one 14 (nb 17 32767) rfl (by kernel_rfl) ?_
          refine Pw.call (rcf_ct x y (hw x (hkm x hxm)) (hw y (hkm y hym))) rfl rfl rfl (by kernel_rfl) rfl rfl (fun w h => ⟨(hv w h : AllR1 l w) x (hkm x hxm), (hv w h : AllR1 l w) y (hkm y hym)⟩) ?_
          intro _ _
          refine Pw.held sf ?_
          refine Pw.takeP 15 (nb 17 65535) rfl rfl rfl rfl (by kernel_rfl) np sf ?_
          refine Pw.takeP 16 (nb 17 131071) rfl rfl rfl rfl (by kernel_rfl) np sf ?_
          refine Pw.done (by kernel_rfl) ?_
          exact Pw.arrive () trivial ⟨rfl, rfl, rfl, rfl, rfl, rfl, rfl, trivial⟩ rfl (fun w h => allCons (hv w h) allNil)
        · skip
          refine Pw.loadRO (l := k) (ex := ex) y rfl encR_len (by rw [hw1, Int.toNat_natCast]; exact hy) (fun w hs => hs.own _ (.head _)) (by kernel_rfl) rfl rfl ?_
          refine Pw.re (d := 31) (v' := rtV y) rfl rfl ?_
          refine Pw.held sf ?_
          refine Pw.one 8 (nb 17 16383) rfl (by kernel_rfl) ?_
          refine Pw.loadRO (l := k) (ex := ex) x rfl encR_len (by rw [Int.toNat_natCast]; exact hx) (fun w hs => hs.own _ (.head _)) (by kernel_rfl) rfl rfl ?_
          refine Pw.re (d := 26) (v' := rtV x) rfl rfl ?_
          refine Pw.held sf ?_
          refine Pw.one 14 (nb 17 32767) rfl (by kernel_rfl) ?_
          refine Pw.call (rcf_ct x y (hw x (hkm x hxm)) (hw y (hkm y hym))) rfl rfl rfl (by kernel_rfl) rfl rfl (fun w h => ⟨(hv w h : AllR1 l w) x (hkm x hxm), (hv w h : AllR1 l w) y (hkm y hym)⟩) ?_
          intro _ _
          refine Pw.held sf ?_
          refine Pw.takeP 15 (nb 17 65535) rfl rfl rfl rfl (by kernel_rfl) np sf ?_
          refine Pw.takeP 16 (nb 17 131071) rfl rfl rfl rfl (by kernel_rfl) np sf ?_
          refine Pw.done (by kernel_rfl) ?_
          exact Pw.arrive () trivial ⟨rfl, rfl, rfl, rfl, rfl, rfl, rfl, trivial⟩ rfl (fun w h => allCons (hv w h) allNil)
      · rintro ⟨⟩ _
        dsimp only
        refine Pw.condD rfl (fun c5 => ?_) (fun c5 => ?_)
        · have hsk2 : sinkR (j + 1) k = sinkR j (swapR k j x y) := by rw [hsk]; exact if_pos c5
          repeat (first | (with_reducible first | refine Pw.seq ?_ | refine Pw.region ?_ | refine Pw.nil ?_ | refine Pw.then_ ?_ | refine Pw.skip ?_ | refine Pw.block ?_ | refine Pw.exit ?_ | refine Pw.inX ?_ | refine Pw.inN ?_ | refine Pw.inR ?_ | refine Pw.thenX ?_ | refine Pw.thenR ?_ | refine Pw.ret ?_) | refine Pw.list (Pw.pure rfl rfl rfl ?_) | refine Pw.inY rfl ?_ | refine Pw.list (Pw.off rfl rfl ?_) | refine Pw.condT rfl ?_ | refine Pw.condF rfl ?_ | refine Pw.list (Pw.box rfl rfl rfl rfl (fun _ => ?_)) | refine Pw.list (Pw.alloc rfl rfl rfl rfl rfl (fun _ => ?_)) | refine Pw.list (Pw.build rfl rfl rfl rfl ?_) | refine Pw.list (Pw.ld rfl inferInstance rfl rfl rfl ?_) | refine Pw.list (Pw.sto rfl rfl inferInstance rfl rfl rfl rfl rfl inferInstance rfl ?_))
          refine Pw.drawnG mixed rfl rfl ?_
          refine Pw.takeP 0 (nb 18 1) rfl rfl rfl rfl (by kernel_rfl) np sf ?_
          refine Pw.takeP 1 (nb 18 3) rfl rfl rfl rfl (by kernel_rfl) np sf ?_
          refine Pw.takeP 2 (nb 18 7) rfl rfl rfl rfl (by kernel_rfl) np sf ?_
          refine Pw.takeP 3 (nb 18 15) rfl rfl rfl rfl (by kernel_rfl) np sf ?_
          refine Pw.takeP 4 (nb 18 31) rfl rfl rfl rfl (by kernel_rfl) np sf ?_
          refine Pw.takeP 5 (nb 18 63) rfl rfl rfl rfl (by kernel_rfl) np sf ?_
          refine Pw.takeP 6 (nb 18 127) rfl rfl rfl rfl (by kernel_rfl) np sf ?_
          refine Pw.takeP 7 (nb 18 255) rfl rfl rfl rfl (by kernel_rfl) np sf ?_
          refine Pw.takeIx 8 (nb 18 511) rfl rfl rfl rfl rfl (by first | assumption | omega) (by first | assumption | omega) rfl rfl (by kernel_rfl) np sf ?_
          refine Pw.takeP 10 (nb 18 1535) rfl rfl rfl rfl (by kernel_rfl) np sf ?_
          refine Pw.takeP 11 (nb 18 3583) rfl rfl rfl rfl (by kernel_rfl) np sf ?_
          refine Pw.takeIx 12 (nb 18 7679) rfl rfl rfl rfl rfl (by first | assumption | omega) (by first | assumption | omega) rfl rfl (by kernel_rfl) np sf ?_
          refine Pw.two 9 13 (nb 18 8191) (nb 18 15871) rfl rfl (by kernel_rfl) ?_ ?_
          · skip
            refine Pw.loadRO (l := k) (ex := ex) y rfl encR_len (by rw [hw1, Int.toNat_natCast]; exact hy) (fun w hs => hs.own _ (.head _)) (by kernel_rfl) rfl rfl ?_
            refine Pw.re (d := 46) (v' := rtV y) rfl rfl ?_
            refine Pw.held sf ?_
            refine Pw.one 13 (nb 18 16383) rfl (by kernel_rfl) ?_
            refine Pw.loadRO (l := k) (ex := ex) x rfl encR_len (by rw [Int.toNat_natCast]; exact hx) (fun w hs => hs.own _ (.head _)) (by kernel_rfl) rfl rfl ?_
            refine Pw.re (d := 50) (v' := rtV x) rfl rfl ?_
            refine Pw.held sf ?_
            refine Pw.takeIx 14 (nb 18 32767) rfl rfl rfl rfl rfl (by first | assumption | omega) (by first | assumption | omega) rfl rfl (by kernel_rfl) np sf ?_
            refine Pw.one 15 (nb 18 65535) rfl (by kernel_rfl) ?_
            refine Pw.storeR (sz := 2) (l := k) (ex := ex) y rfl rfl rfl encR_len (by omega) (by rw [Int.toNat_natCast]; omega) rfl rfl rfl .head rfl ?_
            rw [Int.toNat_natCast]
            refine Pw.held sf ?_
            refine Pw.takeIx 16 (nb 18 131071) rfl rfl rfl rfl rfl (by first | assumption | omega) (by first | assumption | omega) rfl rfl (by kernel_rfl) np sf ?_
            refine Pw.one 17 (nb 18 262143) rfl (by kernel_rfl) ?_
            refine Pw.storeR (sz := 2) (l := k.set (j + 1) y) (ex := ex) x rfl rfl rfl encR_len (by omega) (by rw [hw1, Int.toNat_natCast, List.length_set]; omega) rfl rfl rfl .head rfl ?_
            rw [hw1, Int.toNat_natCast]
            refine Pw.held sf ?_
            refine Pw.done (by kernel_rfl) ?_
            repeat (first | (with_reducible first | refine Pw.seq ?_ | refine Pw.region ?_ | refine Pw.nil ?_ | refine Pw.then_ ?_ | refine Pw.skip ?_ | refine Pw.block ?_ | refine Pw.exit ?_ | refine Pw.inX ?_ | refine Pw.inN ?_ | refine Pw.inR ?_ | refine Pw.thenX ?_ | refine Pw.thenR ?_ | refine Pw.ret ?_) | refine Pw.list (Pw.pure rfl rfl rfl ?_) | refine Pw.inY rfl ?_ | refine Pw.list (Pw.off rfl rfl ?_) | refine Pw.condT rfl ?_ | refine Pw.condF rfl ?_ | refine Pw.list (Pw.box rfl rfl rfl rfl (fun _ => ?_)) | refine Pw.list (Pw.alloc rfl rfl rfl rfl rfl (fun _ => ?_)) | refine Pw.list (Pw.build rfl rfl rfl rfl ?_) | refine Pw.list (Pw.ld rfl inferInstance rfl rfl rfl ?_) | refine Pw.list (Pw.sto rfl rfl inferInstance rfl rfl rfl rfl rfl inferInstance rfl ?_))
            refine Pw.re (d := 9) (v' := .int .i64 ((j : Nat) : Int)) rfl (congrArg (Value.int .i64) hw1) ?_
            exact Pw.again (j, swapR k j x y) ⟨by omega, by rw [← hsk2]; exact hk, by rw [swapR_len]; exact hkl, fun o ho => hkm o (swapR_mem hxm hym ho)⟩ (by show j < j + 1; omega) ⟨rfl, rfl, rfl, rfl, rfl, rfl, trivial⟩ rfl (fun w h => allCons (hv w h) allNil)
          · skip
            refine Pw.loadRO (l := k) (ex := ex) x rfl encR_len (by rw [Int.toNat_natCast]; exact hx) (fun w hs => hs.own _ (.head _)) (by kernel_rfl) rfl rfl ?_
            refine Pw.re (d := 50) (v' := rtV x) rfl rfl ?_
            refine Pw.held sf ?_
            refine Pw.one 9 (nb 18 16383) rfl (by kernel_rfl) ?_
            refine Pw.loadRO (l := k) (ex := ex) y rfl encR_len (by rw [hw1, Int.toNat_natCast]; exact hy) (fun w hs => hs.own _ (.head _)) (by kernel_rfl) rfl rfl ?_
            refine Pw.re (d := 46) (v' := rtV y) rfl rfl ?_
            refine Pw.held sf ?_
            refine Pw.takeIx 14 (nb 18 32767) rfl rfl rfl rfl rfl (by first | assumption | omega) (by first | assumption | omega) rfl rfl (by kernel_rfl) np sf ?_
            refine Pw.one 15 (nb 18 65535) rfl (by kernel_rfl) ?_
            refine Pw.storeR (sz := 2) (l := k) (ex := ex) y rfl rfl rfl encR_len (by omega) (by rw [Int.toNat_natCast]; omega) rfl rfl rfl .head rfl ?_
            rw [Int.toNat_natCast]
            refine Pw.held sf ?_
            refine Pw.takeIx 16 (nb 18 131071) rfl rfl rfl rfl rfl (by first | assumption | omega) (by first | assumption | omega) rfl rfl (by kernel_rfl) np sf ?_
            refine Pw.one 17 (nb 18 262143) rfl (by kernel_rfl) ?_
            refine Pw.storeR (sz := 2) (l := k.set (j + 1) y) (ex := ex) x rfl rfl rfl encR_len (by omega) (by rw [hw1, Int.toNat_natCast, List.length_set]; omega) rfl rfl rfl .head rfl ?_
            rw [hw1, Int.toNat_natCast]
            refine Pw.held sf ?_
            refine Pw.done (by kernel_rfl) ?_
            repeat (first | (with_reducible first | refine Pw.seq ?_ | refine Pw.region ?_ | refine Pw.nil ?_ | refine Pw.then_ ?_ | refine Pw.skip ?_ | refine Pw.block ?_ | refine Pw.exit ?_ | refine Pw.inX ?_ | refine Pw.inN ?_ | refine Pw.inR ?_ | refine Pw.thenX ?_ | refine Pw.thenR ?_ | refine Pw.ret ?_) | refine Pw.list (Pw.pure rfl rfl rfl ?_) | refine Pw.inY rfl ?_ | refine Pw.list (Pw.off rfl rfl ?_) | refine Pw.condT rfl ?_ | refine Pw.condF rfl ?_ | refine Pw.list (Pw.box rfl rfl rfl rfl (fun _ => ?_)) | refine Pw.list (Pw.alloc rfl rfl rfl rfl rfl (fun _ => ?_)) | refine Pw.list (Pw.build rfl rfl rfl rfl ?_) | refine Pw.list (Pw.ld rfl inferInstance rfl rfl rfl ?_) | refine Pw.list (Pw.sto rfl rfl inferInstance rfl rfl rfl rfl rfl inferInstance rfl ?_))
            refine Pw.re (d := 9) (v' := .int .i64 ((j : Nat) : Int)) rfl (congrArg (Value.int .i64) hw1) ?_
            exact Pw.again (j, swapR k j x y) ⟨by omega, by rw [← hsk2]; exact hk, by rw [swapR_len]; exact hkl, fun o ho => hkm o (swapR_mem hxm hym ho)⟩ (by show j < j + 1; omega) ⟨rfl, rfl, rfl, rfl, rfl, rfl, trivial⟩ rfl (fun w h => allCons (hv w h) allNil)
        · have hsk2 : sinkR (j + 1) k = k := by rw [hsk]; exact if_neg c5
          repeat (first | (with_reducible first | refine Pw.seq ?_ | refine Pw.region ?_ | refine Pw.nil ?_ | refine Pw.then_ ?_ | refine Pw.skip ?_ | refine Pw.block ?_ | refine Pw.exit ?_ | refine Pw.inX ?_ | refine Pw.inN ?_ | refine Pw.inR ?_ | refine Pw.thenX ?_ | refine Pw.thenR ?_ | refine Pw.ret ?_) | refine Pw.list (Pw.pure rfl rfl rfl ?_) | refine Pw.inY rfl ?_ | refine Pw.list (Pw.off rfl rfl ?_) | refine Pw.condT rfl ?_ | refine Pw.condF rfl ?_ | refine Pw.list (Pw.box rfl rfl rfl rfl (fun _ => ?_)) | refine Pw.list (Pw.alloc rfl rfl rfl rfl rfl (fun _ => ?_)) | refine Pw.list (Pw.build rfl rfl rfl rfl ?_) | refine Pw.list (Pw.ld rfl inferInstance rfl rfl rfl ?_) | refine Pw.list (Pw.sto rfl rfl inferInstance rfl rfl rfl rfl rfl inferInstance rfl ?_))
          refine Pw.re (d := 8) (v' := .int .i64 ((i + 1 : Nat) : Int)) rfl (congrArg (Value.int .i64) (i64s (n := 100000) (by omega) (by omega))) ?_
          exact Pw.again (i + 1, k) ⟨by omega, by omega, by rw [insR_succ, ← hm, ← hk, hsk2], hkl, hkm⟩ (by show n - (i + 1) < n - i; omega) ⟨rfl, rfl, rfl, rfl, rfl, trivial⟩ rfl (fun w h => allCons (hv w h) allNil)
  · obtain rfl : i = n := by omega
    repeat (first | (with_reducible first | refine Pw.seq ?_ | refine Pw.region ?_ | refine Pw.nil ?_ | refine Pw.then_ ?_ | refine Pw.skip ?_ | refine Pw.block ?_ | refine Pw.exit ?_ | refine Pw.inX ?_ | refine Pw.inN ?_ | refine Pw.inR ?_ | refine Pw.thenX ?_ | refine Pw.thenR ?_ | refine Pw.ret ?_) | refine Pw.list (Pw.pure rfl rfl rfl ?_) | refine Pw.inY rfl ?_ | refine Pw.list (Pw.off rfl rfl ?_) | refine Pw.condT rfl ?_ | refine Pw.condF rfl ?_ | refine Pw.list (Pw.box rfl rfl rfl rfl (fun _ => ?_)) | refine Pw.list (Pw.alloc rfl rfl rfl rfl rfl (fun _ => ?_)) | refine Pw.list (Pw.build rfl rfl rfl rfl ?_) | refine Pw.list (Pw.ld rfl inferInstance rfl rfl rfl ?_) | refine Pw.list (Pw.sto rfl rfl inferInstance rfl rfl rfl rfl rfl inferInstance rfl ?_))
    subst hm
    exact Pw.ret1N (x := ()) hD (.head _) .nil rfl trivial (fun w h => by trivial)
end Go.Proofs.Wk
