/- Walks and their mathematics, merged. No conditions beyond those written. -/
import Derived.Test.YtjnniobafdchlaaGreatWmPayoutPlays2
/- Walks of the reference: halving, dividing, the greatest common divisor. -/
namespace Go.Proofs.Wk
open Go.RowKit
set_option maxRecDepth 100000
attribute [local irreducible] Pw OpG
set_option linter.unusedVariables false
set_option linter.unusedSimpArgs false
theorem rhalf_ct (a : List Int) (x : Option Addr × Nat) (k : Nat) (r : List Int) (h : psephosref01_half.f k a = some r) (hl : a.length < 4194304) :
    Ct Tryz.prog 86 #[sl a x] (S1 a x) (fun z : Option Addr × Nat => sl r z) Tt (fun z => S1 r z) := by
  obtain ⟨A, c⟩ := x
  unfold psephosref01_half.f at h
  rw [Option.bind_some, if_pos (by simp; omega), Option.bind_some, List.nil_append] at h
  refine Ct.start Tryz.func86 rfl rfl (slots_of rfl slots1) (fun D w0 => ?_)
  try refine Pw.run ?_
  refine Pw.list (Pw.lit0 rfl rfl rfl rfl (fun g => ?_))
  try refine Pw.run ?_
  refine Pw.list (Pw.appendCopy (news := a.map (Value.int .u32)) rfl rfl rfl rfl rfl rfl (show (a.map (Value.int .u32)).length = a.length * 1 by simp) (fun w hs => (fact0 hs.all).cells) rfl (by simp only [maxLen]; omega) (show a.length * 4 ≤ _ by omega) (.head _) rfl rfl (fun g cap ex h1 h2 => ?_) (fun h0 => Pw.drop ?_))
  · refine Pw.perm (.swap ..) (Pw.drop ?_)
    try refine Pw.run ?_
    obtain ⟨m, hm⟩ : ∃ m, m = a.length := ⟨_, rfl⟩
    refine Pw.loopJ (σ := Nat × List Int × Int) (fun s => psephosref01_half.l0 s.1 a s.2.1 (m : Int) s.2.2 = some r ∧ s.2.1.length = m)
      (fun s => ⟨[(0, .slice A a.length c), (3, .slice (some ⟨g, 0, none⟩) m cap), (9, .int .i64 m), (10, .int .i64 s.2.2)], [⟨g, row (s.2.1.map (Value.int .u32) ++ ex) 135⟩], [Ints .u32 a A c]⟩) (fun s => s.1) (k, a, 0) ⟨by rw [hm]; exact h, hm.symm⟩ (by rw [hm]; exact Pw.enter ⟨rfl, rfl, rfl, rfl, trivial⟩ (fun _ h => h)) ?_
    clear h
    rintro ⟨k, out, i⟩ ⟨h, hout⟩
    dsimp only at h hout ⊢
    obtain _ | k := k
    · cases h
    simp only [psephosref01_half.l0] at h
    try refine Pw.run ?_
    refine Pw.condD rfl (fun c3 => ?_) (fun c3 => ?_)
    · rw [if_pos c3] at h
      obtain ⟨c4, h⟩ := ite_none h
      obtain ⟨c5, h⟩ := ite_none h
      rw [Option.bind_some] at h
      try refine Pw.run ?_
      refine Pw.list (Pw.indexO rfl rfl rfl rfl c4 (by omega) rfl rfl ?_)
      refine Pw.list (Pw.loadX rfl rfl rfl (.head _) c4 c5 rfl rfl ?_)
      try refine Pw.run ?_
      refine Pw.list (Pw.indexO rfl rfl rfl rfl c4 (by omega) rfl rfl ?_)
      refine Pw.list (Pw.storeX rfl rfl rfl rfl rfl c4 c5 .head rfl ?_)
      obtain ⟨o1, ho1⟩ : ∃ o1, out.set i.toNat (rd out i / 2) = o1 := ⟨_, rfl⟩
      have hl1 : o1.length = m := by rw [← ho1, List.length_set]; exact hout
      rw [ho1] at h ⊢
      try refine Pw.run ?_
      refine Pw.condD rfl (fun c6 => ?_) (fun c6 => ?_)
      · rw [if_pos c6] at h
        obtain ⟨c7, h⟩ := ite_none h
        refine Pw.use (p := A.isSome = true) (fun w h => (fact0 h).has c7 c6) (fun hA => ?_)
        obtain ⟨ad, rfl⟩ := some_of hA
        try refine Pw.run ?_
        refine Pw.drawnG mixed rfl rfl ?_
        refine Pw.takeP 0 (nb 15 1) rfl rfl rfl rfl (by kernel_rfl) np sf ?_
        refine Pw.takeP 1 (nb 15 3) rfl rfl rfl rfl (by kernel_rfl) np sf ?_
        refine Pw.takeP 2 (nb 15 7) rfl rfl rfl rfl (by kernel_rfl) np sf ?_
        refine Pw.takeP 3 (nb 15 15) rfl rfl rfl rfl (by kernel_rfl) np sf ?_
        refine Pw.takeIx 4 (nb 15 31) rfl rfl rfl rfl rfl (by first | assumption | omega) (by first | assumption | omega) rfl rfl (by kernel_rfl) np sf ?_
        refine Pw.takeP 6 (nb 15 95) rfl rfl rfl rfl (by kernel_rfl) np sf ?_
        refine Pw.takeP 7 (nb 15 223) rfl rfl rfl rfl (by kernel_rfl) np sf ?_
        refine Pw.takeP 8 (nb 15 479) rfl rfl rfl rfl (by kernel_rfl) np sf ?_
        refine Pw.takeIx 9 (nb 15 991) rfl rfl rfl rfl rfl (by first | assumption | omega) (by first | assumption | omega) rfl rfl (by kernel_rfl) np sf ?_
        refine Pw.takeLd 10 (nb 15 2015) rfl rfl rfl (fun w hS => by first | exact own_cell (fact0 hS) (by first | assumption | omega) (by first | assumption | omega) | exact own_cellX (fact0 hS) (by first | assumption | omega) (by first | assumption | omega) | exact (fact0 hS).cell (by first | assumption | omega) (by first | assumption | omega) | exact (fact1 hS).cell (by first | assumption | omega) (by first | assumption | omega) | exact (fact2 hS).cell (by first | assumption | omega) (by first | assumption | omega) | exact (fact3 hS).cell (by first | assumption | omega) (by first | assumption | omega)) rfl rfl (by kernel_rfl) np sf ?_
        refine Pw.takeP 11 (nb 15 4063) rfl rfl rfl rfl (by kernel_rfl) np sf ?_
        refine Pw.one 5 (nb 15 4095) rfl (by kernel_rfl) ?_
        -- load Op.load 135 (Operand.tmp 30)
        refine Pw.re (d := 30) (v' := .pointer (some ⟨g, 0 + i.toNat * 1, none⟩)) rfl (congrArg (fun z => Value.pointer (some z)) (add_none g 0 (i.toNat * 1))) ?_
        refine Pw.loadX rfl rfl rfl (.head _) c4 (by omega) rfl rfl (Pw.held (fun w h => h.all) ?_)
        refine Pw.takeP 12 (nb 15 8191) rfl rfl rfl rfl (by kernel_rfl) np sf ?_
        refine Pw.takeIx 13 (nb 15 16383) rfl rfl rfl rfl rfl (by first | assumption | omega) (by first | assumption | omega) rfl rfl (by kernel_rfl) np sf ?_
        refine Pw.one 14 (nb 15 32767) rfl (by kernel_rfl) ?_
        -- eff Op.store 135 (Operand.tmp 39) (Operand.tmp 38)
        refine Pw.re (d := 39) (v' := .pointer (some ⟨g, 0 + i.toNat * 1, none⟩)) rfl (congrArg (fun z => Value.pointer (some z)) (add_none g 0 (i.toNat * 1))) ?_
        refine Pw.storeX rfl rfl rfl rfl rfl c4 (by omega) .head rfl (Pw.held (fun w h => h.all) ?_)
        refine Pw.done (by kernel_rfl) ?_
        try refine Pw.run ?_
        exact Pw.again (k, _, _) ⟨h, by rw [List.length_set]; exact hl1⟩ (Nat.lt_succ_self _) ⟨rfl, rfl, rfl, rfl, trivial⟩ rfl (fun w h => h)
      · rw [if_neg c6] at h
        try refine Pw.run ?_
        exact Pw.again (k, _, _) ⟨h, hl1⟩ (Nat.lt_succ_self _) ⟨rfl, rfl, rfl, rfl, trivial⟩ rfl (fun w h => h)
    · rw [if_neg c3] at h
      obtain ⟨t, ht, h⟩ := Option.bind_eq_some_iff.1 h
      have e1 := rtrim_some (by omega) ht
      subst e1
      obtain rfl := Option.some.inj h
      refine freeHead ?_
      try refine Pw.run ?_
      refine Pw.re (d := 41) (v' := sl out (some ⟨g, 0, none⟩, cap)) rfl (congrArg (fun m => Value.slice (some ⟨g, 0, none⟩) m cap) hout.symm) ?_
      refine Pw.list (Pw.call (rtrim_ct out (some ⟨g, 0, none⟩, cap) (by omega)) rfl rfl rfl (by kernel_rfl) rfl rfl (fun w h => ints_of_row (fact0 h) (by omega) (by simp only [maxLen]; omega)) ?_)
      intro z1 _
      try refine Pw.run ?_
      exact Pw.ret_ (x := z1) (.tmp rfl .nil) rfl trivial (fun w h => fact0 h)
  · obtain rfl := List.eq_nil_of_length_eq_zero h0
    obtain _ | k := k
    · cases h
    simp only [psephosref01_half.l0] at h
    rw [if_neg (by simp)] at h
    obtain ⟨t, ht, h⟩ := Option.bind_eq_some_iff.1 h
    have e1 := rtrim_some (by simp) ht
    subst e1
    obtain rfl := Option.some.inj h
    try refine Pw.run ?_
    refine Pw.rounds 1 ?_
    refine Pw.round ?_
    try refine Pw.run ?_
    refine Pw.list (Pw.call (rtrim_ct [] (some ⟨g, 0, none⟩, 0) (by simp)) rfl rfl rfl (by kernel_rfl) rfl rfl (fun w h => Rows.nil _ _ _ _ _) ?_)
    intro z1 _
    try refine Pw.run ?_
    exact Pw.ret_ (x := z1) (.tmp rfl .nil) rfl trivial (fun w h => fact0 h)
theorem trimL_le : ∀ l : List Int, (trimL l).length ≤ l.length
  | [] => Nat.le_refl _
  | x :: xs => by
    have := trimL_le xs
    unfold trimL; split
    · simp
    · simp only [List.length_cons]; omega
theorem sub_len0 : ∀ (k : Nat) (b out : List Int) (br n i : Int) (r : List Int), psephosref01_sub.l0 k b out br n i = some r → out.length < 1099511627776 → r.length ≤ out.length
  | 0, b, out, br, n, i, r, h, hl => by cases h
  | k + 1, b, out, br, n, i, r, h, hl => by
    simp only [psephosref01_sub.l0] at h
    split at h
    · split at h
      · obtain ⟨_, h⟩ := ite_none h
        obtain ⟨_, h⟩ := ite_none h
        split at h <;> (have := sub_len0 k _ _ _ _ _ _ h (by rw [List.length_set]; exact hl); rw [List.length_set] at this; exact this)
      · obtain ⟨_, h⟩ := ite_none h
        obtain ⟨_, h⟩ := ite_none h
        split at h <;> (have := sub_len0 k _ _ _ _ _ _ h (by rw [List.length_set]; exact hl); rw [List.length_set] at this; exact this)
    · obtain ⟨t, ht, h⟩ := Option.bind_eq_some_iff.1 h
      rw [← Option.some.inj h, rtrim_some hl ht]; exact trimL_le _
theorem sub_len {k : Nat} {a b r : List Int} (h : psephosref01_sub.f k a b = some r) (hl : a.length < 1099511627776) : r.length ≤ a.length := by
  unfold psephosref01_sub.f at h
  rw [Option.bind_some, if_pos (by simp; omega), Option.bind_some, List.nil_append] at h
  exact sub_len0 _ _ _ _ _ _ _ h hl
theorem half_len0 : ∀ (k : Nat) (a out : List Int) (n i : Int) (r : List Int), psephosref01_half.l0 k a out n i = some r → out.length < 1099511627776 → r.length ≤ out.length
  | 0, a, out, n, i, r, h, hl => by cases h
  | k + 1, a, out, n, i, r, h, hl => by
    simp only [psephosref01_half.l0] at h
    split at h
    · obtain ⟨_, h⟩ := ite_none h
      obtain ⟨_, h⟩ := ite_none h
      rw [Option.bind_some] at h
      split at h
      · obtain ⟨_, h⟩ := ite_none h
        have := half_len0 k _ _ _ _ _ h (by rw [List.length_set, List.length_set]; exact hl)
        rw [List.length_set, List.length_set] at this; exact this
      · have := half_len0 k _ _ _ _ _ h (by rw [List.length_set]; exact hl)
        rw [List.length_set] at this; exact this
    · obtain ⟨t, ht, h⟩ := Option.bind_eq_some_iff.1 h
      rw [← Option.some.inj h, rtrim_some hl ht]; exact trimL_le _
theorem half_len {k : Nat} {a r : List Int} (h : psephosref01_half.f k a = some r) (hl : a.length < 4194304) : r.length ≤ a.length := by
  unfold psephosref01_half.f at h
  rw [Option.bind_some, if_pos (by simp; omega), Option.bind_some, List.nil_append] at h
  exact half_len0 _ _ _ _ _ _ h (by omega)
theorem shifted_len0 : ∀ (k : Nat) (a : List Int) (s : Int) (out : List Int) (n i : Int) (r : List Int), psephosref01_shifted.l0 k a s out n i = some r → out.length < 1099511627776 → r.length ≤ out.length
  | 0, a, s, out, n, i, r, h, hl => by cases h
  | k + 1, a, s, out, n, i, r, h, hl => by
    simp only [psephosref01_shifted.l0] at h
    split at h
    · obtain ⟨_, h⟩ := ite_none h
      obtain ⟨_, h⟩ := ite_none h
      obtain ⟨_, h⟩ := ite_none h
      obtain ⟨_, h⟩ := ite_none h
      obtain ⟨_, h⟩ := ite_none h
      obtain ⟨_, h⟩ := ite_none h
      obtain ⟨_, h⟩ := ite_none h
      have := shifted_len0 k _ _ _ _ _ _ h (by rw [List.length_set, List.length_set]; exact hl)
      rw [List.length_set, List.length_set] at this; exact this
    · obtain ⟨t, ht, h⟩ := Option.bind_eq_some_iff.1 h
      rw [← Option.some.inj h, rtrim_some hl ht]; exact trimL_le _
theorem shifted_len {k : Nat} {a r : List Int} {s : Int} (h : psephosref01_shifted.f k a s = some r) (hs : 0 ≤ s) (hs1 : s < 134217728) (hl : a.length < 1048576) : r.length ≤ a.length + (s / 32).toNat + 1 := by
  unfold psephosref01_shifted.f at h
  obtain ⟨_, h⟩ := ite_none h
  obtain ⟨_, h⟩ := ite_none h
  rw [Int.tdiv_eq_ediv_of_nonneg hs, wi64 (n := s / 32) (by omega) (by omega), wi64 (n := (a.length : Int) + s / 32) (by omega) (by omega), wi64 (by omega) (by omega)] at h
  have := shifted_len0 _ _ _ _ _ _ _ h (by rw [List.length_replicate]; omega)
  rw [List.length_replicate] at this; omega
theorem bits_len0 : ∀ (k : Nat) (a : List Int) (n r : Int), psephosref01_bits.l0 k a n = some r → 0 ≤ n → n < 134217728 → 0 ≤ r ∧ r ≤ n
  | 0, a, n, r, h, h0, h1 => by cases h
  | k + 1, a, n, r, h, h0, h1 => by
    simp only [psephosref01_bits.l0] at h
    split at h
    · obtain ⟨_, h⟩ := ite_none h
      obtain ⟨_, h⟩ := ite_none h
      obtain ⟨_, h⟩ := ite_none h
      split at h
      · rw [wi64 (n := n - 1) (by omega) (by omega)] at h
        have := bits_len0 k _ _ _ h (by omega) (by omega); omega
      · have := Option.some.inj h; omega
    · have := Option.some.inj h; omega
theorem bits_len {k : Nat} {a : List Int} {r : Int} (h : psephosref01_bits.f k a = some r) (hl : a.length < 1048576) : 0 ≤ r ∧ r ≤ 32 * a.length := by
  unfold psephosref01_bits.f at h
  rw [wi64 (by omega) (by omega)] at h
  exact bits_len0 _ _ _ _ h (by omega) (by omega)
theorem rdivModF_ct (a b : List Int) (x y : Option Addr × Nat) (k : Nat) (Q M : List Int) (h : psephosref01_divMod.f k a b = some (Q, M)) (hl : a.length < 1048576) (hl' : b.length < 1048576) :
    Ct Tryz.prog 72 #[sl a x, sl b y] (fun W => S1 a x W ∧ S1 b y W) (fun z : (Option Addr × Nat) × (Option Addr × Nat) => .tuple #[sl Q z.1, sl M z.2]) Tt (fun z W => S1 Q z.1 W ∧ S1 M z.2 W) := by
  unfold psephosref01_divMod.f at h
  obtain ⟨m0, h1, h⟩ := Option.bind_eq_some_iff.1 h
  obtain ⟨n0, h2, h⟩ := Option.bind_eq_some_iff.1 h
  have b1 := bits_len h1 hl
  have b2 := bits_len h2 hl'
  refine Ct.start Tryz.func72 rfl rfl (slots_of rfl slots2) (fun D w0 => Pw.facts two2 ?_)
  try refine Pw.run ?_
  refine Pw.list (Pw.call (rbits_ct a x k m0 h1 (by omega)) rfl rfl rfl (by kernel_rfl) rfl rfl (fun w h => fact0 h) ?_)
  intro _ _
  try refine Pw.run ?_
  refine Pw.list (Pw.call (rbits_ct b y k n0 h2 (by omega)) rfl rfl rfl (by kernel_rfl) rfl rfl (fun w h => fact2 h) ?_)
  intro _ _
  have hn1 : wrap64 (m0 - n0) = m0 - n0 := wi64 (by omega) (by omega)
  try refine Pw.run ?_
  generalize wrap64 (m0 - n0) = n at h hn1 ⊢
  refine Pw.condD rfl (fun c1 => ?_) (fun c1 => ?_)
  · rw [if_pos c1] at h
    obtain ⟨t, ht, h⟩ := Option.bind_eq_some_iff.1 h
    have e1 := rtrim_some (by omega) ht
    subst e1
    obtain ⟨rfl, rfl⟩ := Prod.mk.inj (Option.some.inj h)
    try refine Pw.run ?_
    refine Pw.list (Pw.call (rtrim_ct a x (by omega)) rfl rfl rfl (by kernel_rfl) rfl rfl (fun w h => fact2 h) ?_)
    intro z _
    try refine Pw.run ?_
    exact Pw.ret_ (x := ((none, 0), z)) (.tmp rfl (.tmp rfl .nil)) rfl trivial (fun w h => ⟨Rows.nil _ _ _ _ _, fact0 h⟩)
  rw [if_neg c1] at h
  obtain ⟨c2, h⟩ := ite_none h
  obtain ⟨c3, h⟩ := ite_none h
  obtain ⟨r0, h3, h⟩ := Option.bind_eq_some_iff.1 h
  obtain ⟨x0, h4, h⟩ := Option.bind_eq_some_iff.1 h
  obtain rfl := rtrim_some (by omega) h3
  have l1 := trimL_le a
  have l2 := shifted_len h4 (by omega) (by omega) hl'
  obtain ⟨nq, hnq⟩ : ∃ nq, nq = (n / 32).toNat + 1 := ⟨_, rfl⟩
  have e1 : wrap64 (wrap64 (Int.tdiv n 32) + 1) = (nq : Int) := by rw [Int.tdiv_eq_ediv_of_nonneg (by omega), wi64 (n := n / 32) (by omega) (by omega), wi64 (by omega) (by omega)]; omega
  rw [e1, Int.toNat_natCast] at h
  refine Pw.facts (G' := [S1 a x, S1 b y]) (fun w h => allCons (fact2 h) (allCons (fact3 h) allNil)) ?_
  try refine Pw.run ?_
  refine Pw.join (σ := Nat × (Option Addr × Nat)) (fun _ => True) (fun s => ⟨[(1, sl b y), (6, .int .i64 n), (7, .slice (some ⟨s.1, 0, none⟩) nq nq), (8, sl (trimL a) s.2)], [⟨s.1, row ((List.replicate nq (0 : Int)).map (Value.int .u32)) 135⟩], [S1 (trimL a) s.2, S1 b y]⟩) ?_ ?_
  · skip
    refine Pw.drawnG mixed rfl rfl ?_
    refine Pw.takeP 0 (nb 8 1) rfl rfl rfl rfl (by kernel_rfl) np sf ?_
    refine Pw.takeP 1 (nb 8 3) rfl rfl rfl rfl (by kernel_rfl) np sf ?_
    refine Pw.takeP 2 (nb 8 7) rfl rfl rfl rfl (by kernel_rfl) np sf ?_
    refine Pw.takeP 4 (nb 8 23) rfl rfl rfl rfl (by kernel_rfl) np sf ?_
    refine Pw.two 3 5 (nb 8 31) (nb 8 55) rfl rfl (by kernel_rfl) ?_ ?_
    · skip
      refine Pw.re (d := 22) (v' := .int .i64 (nq : Int)) rfl (by rw [e1]) ?_
      refine Pw.make rfl rfl rfl rfl rfl rfl (show 4 * nq ≤ _ by omega) (by simp only [maxLen]; omega) rfl rfl (fun g => ?_)
      refine Pw.held sf ?_
      refine Pw.one 5 (nb 8 63) rfl (by kernel_rfl) ?_
      refine Pw.call (rtrim_ct a x (by omega)) rfl rfl rfl (by kernel_rfl) rfl rfl (fun w h => (hv w h)) ?_
      intro z _
      refine Pw.held sf ?_
      refine Pw.takeP 6 (nb 8 127) rfl rfl rfl rfl (by kernel_rfl) np sf ?_
      refine Pw.takeP 7 (nb 8 255) rfl rfl rfl rfl (by kernel_rfl) np sf ?_
      refine Pw.done (by kernel_rfl) ?_
      rw [zeros_map]
      exact Pw.arrive (g, z) trivial ⟨rfl, rfl, rfl, rfl, trivial⟩ rfl (fun w h => allCons (hv w h) (allCons (hv w h) allNil))
    · skip
      refine Pw.call (rtrim_ct a x (by omega)) rfl rfl rfl (by kernel_rfl) rfl rfl (fun w h => (hv w h)) ?_
      intro z _
      refine Pw.held sf ?_
      refine Pw.one 3 (nb 8 63) rfl (by kernel_rfl) ?_
      refine Pw.re (d := 22) (v' := .int .i64 (nq : Int)) rfl (by rw [e1]) ?_
      refine Pw.make rfl rfl rfl rfl rfl rfl (show 4 * nq ≤ _ by omega) (by simp only [maxLen]; omega) rfl rfl (fun g => ?_)
      refine Pw.held sf ?_
      refine Pw.takeP 6 (nb 8 127) rfl rfl rfl rfl (by kernel_rfl) np sf ?_
      refine Pw.takeP 7 (nb 8 255) rfl rfl rfl rfl (by kernel_rfl) np sf ?_
      refine Pw.done (by kernel_rfl) ?_
      rw [zeros_map]
      exact Pw.arrive (g, z) trivial ⟨rfl, rfl, rfl, rfl, trivial⟩ rfl (fun w h => allCons (hv w h) (allCons (hv w h) allNil))
  rintro ⟨gq, zr⟩ _
  dsimp only
  try refine Pw.run ?_
  refine Pw.list (Pw.call (rshifted_ct b y n k x0 h4 (by omega) (by omega) hl') rfl rfl rfl (by kernel_rfl) rfl rfl (fun w h => fact1 h) ?_)
  intro zx _
  try refine Pw.run ?_
  refine Pw.loopJ (σ := Nat × List Int × (List Int × (Option Addr × Nat)) × (List Int × (Option Addr × Nat)) × Int) (fun t => psephosref01_divMod.l0 t.1 t.2.1 t.2.2.1.1 t.2.2.2.1.1 t.2.2.2.2 = some (Q, M) ∧ t.2.1.length = nq ∧ t.2.2.1.1.length < 4194304 ∧ t.2.2.2.1.1.length < 4194304)
    (fun t => ⟨[(7, .slice (some ⟨gq, 0, none⟩) nq nq), (8, sl t.2.2.1.1 t.2.2.1.2), (9, sl t.2.2.2.1.1 t.2.2.2.1.2), (10, .int .i64 t.2.2.2.2)], [⟨gq, row (t.2.1.map (Value.int .u32)) 135⟩], [S1 t.2.2.1.1 t.2.2.1.2, S1 t.2.2.2.1.1 t.2.2.2.1.2]⟩) (fun s => s.1) (k, _, (_, zr), (x0, zx), n) ⟨h, by simp, by show (trimL a).length < _; omega, by show x0.length < _; omega⟩ (Pw.enter ⟨rfl, rfl, rfl, rfl, trivial⟩ (fun _ h => allCons (fact1 h) (allCons (fact0 h) allNil))) ?_
  have hq2 : nq < 8388608 := by omega
  clear h h1 h2 h4 l1 l2 e1 hn1 c1 c2 c3 hnq
  rintro ⟨k, q, ⟨r, zr⟩, ⟨x, zx⟩, i⟩ ⟨h, hq, hr, hx⟩
  dsimp only at h hq hr hx ⊢
  obtain _ | k := k
  · cases h
  simp only [psephosref01_divMod.l0] at h
  try refine Pw.run ?_
  refine Pw.condD rfl (fun c1 => ?_) (fun c1 => ?_)
  · rw [if_pos c1] at h
    obtain ⟨cm, h1, h⟩ := Option.bind_eq_some_iff.1 h
    try refine Pw.run ?_
    refine Pw.list (Pw.call (rcmpF_ct r x zr zx k cm h1) rfl rfl rfl (by kernel_rfl) rfl rfl (fun w h => ⟨fact0 h, fact1 h⟩) ?_)
    intro _ _
    try refine Pw.run ?_
    refine Pw.condD rfl (fun c2 => ?_) (fun c2 => ?_)
    · rw [if_pos c2] at h
      obtain ⟨r2, h2, h⟩ := Option.bind_eq_some_iff.1 h
      obtain ⟨d1, h⟩ := ite_none h
      obtain ⟨d2, h⟩ := ite_none h
      obtain ⟨d3, h⟩ := ite_none h
      obtain ⟨x2, h3, h⟩ := Option.bind_eq_some_iff.1 h
      have l2 := sub_len h2 (by omega)
      have l3 := half_len h3 (by omega)
      try refine Pw.run ?_
      refine Pw.list (Pw.call (rsubF_ct r x zr zx k r2 h2 hr) rfl rfl rfl (by kernel_rfl) rfl rfl (fun w h => ⟨fact1 h, fact2 h⟩) ?_)
      intro zr2 _
      try refine Pw.run ?_
      refine Pw.list (Pw.indexO rfl rfl rfl rfl d1 (by omega) rfl rfl ?_)
      refine Pw.list (Pw.loadI rfl rfl rfl (.head _) d1 d2 rfl rfl ?_)
      try refine Pw.run ?_
      refine Pw.list (Pw.shl rfl rfl rfl d3 rfl rfl ?_)
      try refine Pw.run ?_
      refine Pw.list (Pw.indexO rfl rfl rfl rfl d1 (by omega) rfl rfl ?_)
      refine Pw.list (Pw.storeI rfl rfl rfl rfl rfl d1 d2 .head rfl ?_)
      try refine Pw.run ?_
      refine Pw.list (Pw.call (rhalf_ct x zx k x2 h3 hx) rfl rfl rfl (by kernel_rfl) rfl rfl (fun w h => fact3 h) ?_)
      intro zx2 _
      try refine Pw.run ?_
      exact Pw.again (k, _, (r2, zr2), (x2, zx2), _) ⟨h, by rw [List.length_set]; exact hq, by show r2.length < _; omega, by show x2.length < _; omega⟩ (Nat.lt_succ_self _) ⟨rfl, rfl, rfl, rfl, trivial⟩ rfl (fun w h => allCons (fact1 h) (allCons (fact0 h) allNil))
    · rw [if_neg c2] at h
      obtain ⟨x2, h3, h⟩ := Option.bind_eq_some_iff.1 h
      have l3 := half_len h3 (by omega)
      try refine Pw.run ?_
      refine Pw.list (Pw.call (rhalf_ct x zx k x2 h3 hx) rfl rfl rfl (by kernel_rfl) rfl rfl (fun w h => fact2 h) ?_)
      intro zx2 _
      try refine Pw.run ?_
      exact Pw.again (k, _, (r, zr), (x2, zx2), _) ⟨h, hq, hr, by show x2.length < _; omega⟩ (Nat.lt_succ_self _) ⟨rfl, rfl, rfl, rfl, trivial⟩ rfl (fun w h => allCons (fact2 h) (allCons (fact0 h) allNil))
  · rw [if_neg c1] at h
    obtain ⟨t, ht, h⟩ := Option.bind_eq_some_iff.1 h
    have hq1 : q.length < 1099511627776 := by rw [hq]; omega
    have e1 := rtrim_some hq1 ht
    subst e1
    obtain ⟨rfl, rfl⟩ := Prod.mk.inj (Option.some.inj h)
    refine freeHead ?_
    try refine Pw.run ?_
    refine Pw.re (d := 57) (v' := sl q (some ⟨gq, 0, none⟩, nq)) rfl (congrArg (fun m => Value.slice (some ⟨gq, 0, none⟩) m nq) hq.symm) ?_
    refine Pw.list (Pw.call (rtrim_ct q (some ⟨gq, 0, none⟩, nq) hq1) rfl rfl rfl (by kernel_rfl) rfl rfl (fun w h => ints_of_row' (fact0 h) (by omega) (by simp only [maxLen]; omega)) ?_)
    intro z1 _
    try refine Pw.run ?_
    exact Pw.ret_ (x := (z1, zr)) (.tmp rfl (.tmp rfl .nil)) rfl trivial (fun w h => ⟨fact0 h, fact2 h⟩)
end Go.Proofs.Wk
/- Walks of the reference: the greatest common divisor; lowest terms. -/
namespace Go.Proofs.Wk
open Go.RowKit
set_option maxRecDepth 100000
attribute [local irreducible] Pw OpG
set_option linter.unusedVariables false
set_option linter.unusedSimpArgs false
theorem rdivMod_ct (a b : List Int) (x y : Option Addr × Nat) (ha : Fm a) (hb : Fm b) (hb0 : b.length ≠ 0) (hl : a.length < 1048576) (hl' : b.length < 1048576) :
    Ct Tryz.prog 72 #[sl a x, sl b y] (fun W => S1 a x W ∧ S1 b y W) (fun z : (Option Addr × Nat) × (Option Addr × Nat) => .tuple #[sl (natL (val a / val b)) z.1, sl (natL (val a % val b)) z.2]) Tt (fun z W => S1 (natL (val a / val b)) z.1 W ∧ S1 (natL (val a % val b)) z.2 W) :=
  rdivModF_ct a b x y _ _ _ (rdivMod_ev ha hb hb0 (by omega) (by omega) (Nat.lt_succ_self _)) hl hl'
end Go.Proofs.Wk
/- Walks of layer 2: forming fractions. -/
namespace Go.Proofs.Wk
open Go.RowKit
set_option maxRecDepth 100000
attribute [local irreducible] Pw OpG
set_option linter.unusedVariables false
set_option linter.unusedSimpArgs false
abbrev Z2 := (Option Addr × Nat) × (Option Addr × Nat)
abbrev R2 (a b : List Int) (z : Z2) (W : World) : Prop := S1 a z.1 W ∧ S1 b z.2 W
instance {G : List (World → Prop)} {a b : List Int} {z : Z2} : Has (R2 a b z :: G) (S1 a z.1) := ⟨fun w h => (fact0 h).1⟩
instance {G : List (World → Prop)} {a b : List Int} {z : Z2} : Has (R2 a b z :: G) (S1 b z.2) := ⟨fun w h => (fact0 h).2⟩
abbrev z0 : Z2 := ((none, 0), (none, 0))
theorem R2.nil (W : World) : R2 [] [] z0 W := ⟨Rows.nil _ _ _ _ _, Rows.nil _ _ _ _ _⟩
end Go.Proofs.Wk
/- Walks of layer 2: formed fractions; what makes products. -/
namespace Go.Proofs.Wk
open Go.RowKit
set_option maxRecDepth 100000
attribute [local irreducible] Pw OpG
set_option linter.unusedVariables false
set_option linter.unusedSimpArgs false
end Go.Proofs.Wk
/- Walks of layer 2: multiplying, dividing, rounding down. -/
namespace Go.Proofs.Wk
open Go.RowKit
set_option maxRecDepth 100000
attribute [local irreducible] Pw OpG
set_option linter.unusedVariables false
set_option linter.unusedSimpArgs false
end Go.Proofs.Wk
/- Walks of layer 2: dividing, rounding down, comparing. -/
namespace Go.Proofs.Wk
open Go.RowKit
set_option maxRecDepth 100000
attribute [local irreducible] Pw OpG
set_option linter.unusedVariables false
set_option linter.unusedSimpArgs false
end Go.Proofs.Wk
/- Walks of layer 2: adding, subtracting, the lesser one. -/
namespace Go.Proofs.Wk
open Go.RowKit
set_option maxRecDepth 100000
attribute [local irreducible] Pw OpG
set_option linter.unusedVariables false
set_option linter.unusedSimpArgs false
end Go.Proofs.Wk
/- What layer 2 answers, of formed fractions. -/
namespace Go.Proofs.Wk
set_option linter.unusedVariables false
set_option linter.unusedSimpArgs false

theorem mulS_bd {a b : List Int} (ha : fmB a = true) (hb : fmB b = true) : mulS a b = bdS (natL (val a * val b)) := by
  unfold mulS; rw [if_pos ⟨ha, hb⟩]; rfl
theorem bd_ok {l : List Int} (h : l.length ≤ 400) : bdS l = (l, 0) := if_pos h
section
variable {a b c d : List Int} (ha : Lm a) (hb : Lm b) (hc : Lm c) (hd : Lm d) (hf : formedR a b = true) (hg : formedR c d = true)
include ha hb hc hd hf hg
end
end Go.Proofs.Wk
/- RatioRules: what layer 2 answers, of fractions «as» pairs of numbers. -/
namespace Go.Proofs.Wk
set_option linter.unusedVariables false
set_option linter.unusedSimpArgs false
section
variable {p q r s : Int} {n : Nat} (hp : 0 ≤ p) (hq : 0 < q) (hr : 0 ≤ r) (hs : 0 < s) (lp : p < pw n) (lq : q < pw n) (lr : r < pw n) (ls : s < pw n) (hn : n + n + 1 ≤ 400)
include hp hq hr hs lp lq lr ls hn
end
end Go.Proofs.Wk
/- Fractions «as» rational numbers. -/
namespace Go.Proofs.Wk
set_option linter.unusedVariables false
set_option linter.unusedSimpArgs false
def qn (x : Rat) : List Int := natL x.num
def qd (x : Rat) : List Int := natL (x.den : Int)
/-- The number that two naturals say. -/
def rv (a b : List Int) : Rat := Rat.divInt (val a) (val b)
/-- A number that is not negative, with a numerator and a denominator of at most n limbs. -/
structure Sz (m : Nat) (x : Rat) : Prop where
  p : 0 ≤ x
  n : x.num < pw m
  d : (x.den : Int) < pw m
theorem num_pos {x : Rat} (h : 0 ≤ x) : 0 ≤ x.num := Rat.num_nonneg.2 h
theorem den_pos (x : Rat) : 0 < (x.den : Int) := by have := x.den_nz; omega
theorem val_qn {x : Rat} (h : 0 ≤ x) : val (qn x) = x.num := val_natL (num_pos h)
theorem val_qd (x : Rat) : val (qd x) = (x.den : Int) := val_natL (by have := den_pos x; omega)
theorem mul_lt_pw {a b : Int} {m n : Nat} (ha : 0 ≤ a) (h1 : a < pw m) (h2 : b < pw n) (hb : 0 ≤ b) : a * b < pw (m + n) := by
  rw [pw_add]
  have := pw_pos m
  have h3 : a * b ≤ a * pw n := Int.mul_le_mul_of_nonneg_left (by omega) ha
  have h4 : a * pw n < pw m * pw n := Int.mul_lt_mul_of_pos_right h1 (pw_pos n)
  omega
theorem Sz.mono {m n : Nat} {x : Rat} (h : Sz m x) (hn : m ≤ n) : Sz n x := ⟨h.p, by have := h.n; have := pw_le hn; omega, by have := h.d; have := pw_le hn; omega⟩
theorem Sz.ld {n : Nat} {x : Rat} (h : Sz n x) : (qd x).length ≤ n := natL_len_le (by have := den_pos x; omega) h.d
section
variable {x y : Rat} {m n : Nat} (hx : Sz m x) (hy : Sz n y)
include hx hy
end
end Go.Proofs.Wk
/- Elections: the plain model of the rounds, in whole numbers. -/
namespace Go.Proofs.Wk
open Go.RowKit
set_option linter.unusedVariables false
set_option linter.unusedSimpArgs false
/-! ### Numbers -/
theorem pw_two : (18446744073709551615 : Int) < pw 2 := by rw [show (2 : Nat) = 0 + 1 + 1 by rfl, pw_succ, pw_succ, pw_zero]; omega
theorem lt_pw_le {x : Int} {a b : Nat} (h : x < pw a) (hab : a ≤ b) : x < pw b := by have := pw_le hab; omega
theorem mul_nn {x y : Int} {a b : Nat} (h0 : 0 ≤ x) (hx : x < pw a) (h1 : 0 ≤ y) (hy : y < pw b) (ha : a + b ≤ 400) : (mulS (natL x) (natL y)).1 = natL (x * y) := by
  rw [mulS_bd (fmB_natL' h0 (lt_pw_le hx (by omega))) (fmB_natL' h1 (lt_pw_le hy (by omega))), val_natL h0, val_natL h1, bd_ok]
  exact natL_len_le (Int.mul_nonneg h0 h1) (lt_pw_le (mul_lt_pw h0 hx hy h1) (by omega))
theorem natL_la {x : Int} {a : Nat} (h0 : 0 ≤ x) (hx : x < pw a) (ha : a ≤ 400) : (natL x).length < 1048576 := by
  have := natL_len_le h0 hx; omega
theorem natL_lm (x : Int) : Lm (natL x) := (natL_fm x).1
/-! ### The model -/
def st (vs : List Vtr) (i : Nat) : Int := ((vs[i]?).map Vtr.st).getD 0
def pks (vs : List Vtr) (i : Nat) : List Int := ((vs[i]?).map Vtr.pk).getD []
/-- Whoever approves c and has a stake, by their places. -/
def ap (vs : List Vtr) (c : Int) : List Nat := (List.range vs.length).filter (fun i => decide (0 < st vs i) && decide (c ∈ pks vs i))
def at0 (l : List Int) (i : Nat) : Int := (l[i]?).getD 0
def sumL (f : Nat → Int) (l : List Nat) : Int := (l.map f).sum
theorem sumL_snoc (f : Nat → Int) (l : List Nat) (i : Nat) : sumL f (l ++ [i]) = sumL f l + f i := by unfold sumL; simp
/-- A candidate's score: over the denominator times the stake. -/
def scN (D : Int) (vs : List Vtr) (ld : List Int) (l : List Nat) : Int := D + sumL (fun i => at0 ld i * st vs i) l
def scT (vs : List Vtr) (l : List Nat) : Int := sumL (st vs) l
structure Est where
  D : Int
  ld : List Int
  ed : List (List (Int × Int × Int))
  se : List (Int × Int × Int)
def elig (vs : List Vtr) (S : Est) (c : Int) : Bool := !(ap vs c).isEmpty && !(S.se.any (fun x => decide (x.1 = c)))
end Go.Proofs.Wk
/- Walks of the reference's fractions. -/
namespace Go.Proofs.Wk
open Go.RowKit
set_option maxRecDepth 100000
attribute [local irreducible] Pw OpG
set_option linter.unusedVariables false
set_option linter.unusedSimpArgs false
end Go.Proofs.Wk
/- Walks of the reference's fractions: reckoning. -/
namespace Go.Proofs.Wk
open Go.RowKit
set_option maxRecDepth 100000
attribute [local irreducible] Pw OpG
set_option linter.unusedVariables false
set_option linter.unusedSimpArgs false
end Go.Proofs.Wk
/- Walks of the laws of layer 2: their helpers. -/
namespace Go.Proofs.Wk
open Go.RowKit
set_option maxRecDepth 100000
attribute [local irreducible] Pw OpG
set_option linter.unusedVariables false
set_option linter.unusedSimpArgs false
end Go.Proofs.Wk
/- The law RatioProducts walked. -/
namespace Go.Proofs.Wk
open Go.RowKit
set_option maxRecDepth 100000
set_option maxHeartbeats 4000000
attribute [local irreducible] Pw OpG
set_option linter.unusedVariables false
set_option linter.unusedSimpArgs false
end Go.Proofs.Wk
/- Walks of the reference's fractions: comparing, adding, subtracting, the lesser one. -/
namespace Go.Proofs.Wk
open Go.RowKit
set_option maxRecDepth 100000
set_option maxHeartbeats 4000000
attribute [local irreducible] Pw OpG
set_option linter.unusedVariables false
set_option linter.unusedSimpArgs false
end Go.Proofs.Wk
/- The law RatioSums walked. -/
namespace Go.Proofs.Wk
open Go.RowKit
set_option maxRecDepth 100000
set_option maxHeartbeats 4000000
attribute [local irreducible] Pw OpG
set_option linter.unusedVariables false
set_option linter.unusedSimpArgs false
end Go.Proofs.Wk
/- Shares: plain facts of what members are given. -/
namespace Go.Proofs.Wk
open Go.RowKit
set_option linter.unusedVariables false
set_option linter.unusedSimpArgs false
structure Shr where
  v : Int
  c : Int
  a : List Int
  b : List Int
  z : Z2
structure ShrW (s : Shr) : Prop where
  a : Lm s.a
  b : Lm s.b
structure Rt where
  a : List Int
  b : List Int
  z : Z2
abbrev R3t := List Int × List Int × Int
structure R3ok (t : R3t) : Prop where
  a : Fm t.1
  b : Fm t.2.1
  la : t.1.length < 1048576
  lb : t.2.1.length < 1048576
end Go.Proofs.Wk
/- Shares: helpers walked. -/
namespace Go.Proofs.Wk
open Go.RowKit
set_option maxRecDepth 100000
set_option maxHeartbeats 1000000
attribute [local irreducible] Pw OpG
set_option linter.unusedVariables false
set_option linter.unusedSimpArgs false
end Go.Proofs.Wk
/- Shares: phragmen.Supports walked. -/
namespace Go.Proofs.Wk
open Go.RowKit
set_option maxRecDepth 100000
set_option maxHeartbeats 2000000
attribute [local irreducible] Pw OpG
set_option linter.unusedVariables false
set_option linter.unusedSimpArgs false
end Go.Proofs.Wk
/- Shares: psephoslaw11.Few, Theirs; the document's Supports. -/
namespace Go.Proofs.Wk
open Go.RowKit
set_option maxRecDepth 100000
set_option maxHeartbeats 2000000
attribute [local irreducible] Pw OpG
set_option linter.unusedVariables false
set_option linter.unusedSimpArgs false
end Go.Proofs.Wk
/- Shares: the document's Supports walked. -/
namespace Go.Proofs.Wk
open Go.RowKit
set_option maxRecDepth 100000
set_option maxHeartbeats 4000000
attribute [local irreducible] Pw OpG
set_option linter.unusedVariables false
set_option linter.unusedSimpArgs false
end Go.Proofs.Wk
/- Weights made whole: helpers walked. -/
namespace Go.Proofs.Wk
open Go.RowKit
set_option maxRecDepth 100000
set_option maxHeartbeats 1000000
attribute [local irreducible] Pw OpG
set_option linter.unusedVariables false
set_option linter.unusedSimpArgs false
structure RtW (r : Rt) : Prop where
  a : Lm r.a
  b : Lm r.b
/-- A weight's place, and its rest. -/
structure On where
  at_ : Int
  a : List Int
  b : List Int
  z : Z2
def encO (o : On) : List Value := [.int .i64 o.at_, sl o.a o.z.1, sl o.b o.z.2]
end Go.Proofs.Wk
/- Weights made whole: the document's difference. -/
namespace Go.Proofs.Wk
open Go.RowKit
set_option maxRecDepth 100000
set_option maxHeartbeats 1000000
attribute [local irreducible] Pw OpG
set_option linter.unusedVariables false
set_option linter.unusedSimpArgs false
structure MinOk (a b c d : List Int) : Prop where
  ad : (natL (val a * val d)).length ≤ 400
  cb : (natL (val c * val b)).length ≤ 400
  bd : (natL (val b * val d)).length ≤ 400
  le : val c * val b ≤ val a * val d
  pos : 0 < val b * val d
  n : 0 ≤ val a * val d ∧ 0 ≤ val c * val b
end Go.Proofs.Wk
/- Weights made whole: low numbers. -/
namespace Go.Proofs.Wk
open Go.RowKit
set_option maxRecDepth 100000
set_option maxHeartbeats 1000000
attribute [local irreducible] Pw OpG
set_option linter.unusedVariables false
set_option linter.unusedSimpArgs false
theorem or_0 {a : Int} (h : 0 ≤ a ∧ a ≤ 4294967295) : Go.bits .or .u64 0 a = a := by
  have := or_low (y := 0) h.1 h.2 (by omega) (by omega)
  simpa using this
theorem shl_0 {a : Int} (h : 0 ≤ a ∧ a ≤ 4294967295) : shl .u64 (IntKind.u64.wrap a) 0 = a := by
  unfold shl; rw [wu (n := a) h.1 (by omega)]; simp; exact wu h.1 (by omega)
theorem shl_32 {a : Int} (h : 0 ≤ a ∧ a ≤ 4294967295) : shl .u64 (IntKind.u64.wrap a) 32 = a * 4294967296 := by
  unfold shl; rw [wu (n := a) h.1 (by omega)]; simp
  rw [show (2 : Int) ^ (min 32 IntKind.u64.bits) = 4294967296 from rfl]; exact wu (by omega) (by omega)
/-- What a natural says «as» a number. -/
def lowN (l : List Int) : Int × Bool := if fmB l = true ∧ l.length ≤ 2 then (val l, true) else (0, false)
theorem Low_ct (l : List Int) (x : Option Addr × Nat) (hm : Lm l) (hl : l.length < 1048576) : Ct Tryz.prog 52 #[sl l x] (S1 l x) (fun _ : Unit => .tuple #[.int .u64 (lowN l).1, .bool (lowN l).2]) Tt (fun _ _ => True) := by
  obtain ⟨A, c⟩ := x
  refine Ct.start Tryz.func52 rfl rfl (slots_of rfl slots1) (fun D w0 => ?_)
  repeat (first | refine Pw.runs ?_ | refine Pw.list (Pw.box rfl rfl rfl rfl (fun _ => ?_)) | refine Pw.list (Pw.alloc rfl rfl rfl rfl rfl (fun _ => ?_)))
  refine Pw.list (Pw.call (Formed_ct l (A, c) (by omega)) rfl rfl rfl (by kernel_rfl) rfl rfl (fun w h => (hv w h)) ?_)
  intro _ _
  cases hf : fmB l
  · have e : lowN l = (0, false) := if_neg (fun h => by rw [hf] at h; cases h.1)
    rw [e]
    repeat (first | refine Pw.runs ?_ | refine Pw.list (Pw.box rfl rfl rfl rfl (fun _ => ?_)) | refine Pw.list (Pw.alloc rfl rfl rfl rfl rfl (fun _ => ?_)))
    exact Pw.ret_ (x := ()) (.tmp rfl (.tmp rfl .nil)) rfl trivial (fun w h => by trivial)
  repeat (first | refine Pw.runs ?_ | refine Pw.list (Pw.box rfl rfl rfl rfl (fun _ => ?_)) | refine Pw.list (Pw.alloc rfl rfl rfl rfl rfl (fun _ => ?_)))
  refine Pw.condD rfl (fun c1 => ?_) (fun c1 => ?_)
  · have e : lowN l = (0, false) := if_neg (fun h => by omega)
    rw [e]
    repeat (first | refine Pw.runs ?_ | refine Pw.list (Pw.box rfl rfl rfl rfl (fun _ => ?_)) | refine Pw.list (Pw.alloc rfl rfl rfl rfl rfl (fun _ => ?_)))
    exact Pw.ret_ (x := ()) (.tmp rfl (.tmp rfl .nil)) rfl trivial (fun w h => by trivial)
  have e : lowN l = (val l, true) := if_pos ⟨hf, by omega⟩
  rw [e]
  rcases l with _ | ⟨a, _ | ⟨b, _ | ⟨d, r⟩⟩⟩
  · repeat (first | refine Pw.runs ?_ | refine Pw.list (Pw.box rfl rfl rfl rfl (fun _ => ?_)) | refine Pw.list (Pw.alloc rfl rfl rfl rfl rfl (fun _ => ?_)))
    refine Pw.rounds 3 (Pw.round ?_)
    repeat (first | refine Pw.runs ?_ | refine Pw.list (Pw.box rfl rfl rfl rfl (fun _ => ?_)) | refine Pw.list (Pw.alloc rfl rfl rfl rfl rfl (fun _ => ?_)))
    exact Pw.ret_ (x := ()) (.tmp rfl (.tmp rfl .nil)) rfl trivial (fun w h => by trivial)
  · have ha := hm a (by simp)
    repeat (first | refine Pw.runs ?_ | refine Pw.list (Pw.box rfl rfl rfl rfl (fun _ => ?_)) | refine Pw.list (Pw.alloc rfl rfl rfl rfl rfl (fun _ => ?_)))
    refine Pw.rounds 3 (Pw.round ?_)
    repeat (first | refine Pw.runs ?_ | refine Pw.list (Pw.box rfl rfl rfl rfl (fun _ => ?_)) | refine Pw.list (Pw.alloc rfl rfl rfl rfl rfl (fun _ => ?_)))
    refine Pw.list (Pw.index rfl rfl rfl rfl (Int.le_refl 0) (by show (0 : Int) < 1; omega) (fun w h => (hv w h : S1 [a] (A, c) w).has (i := 0) (Int.le_refl 0) (by show (0 : Int) < 1; omega)) rfl rfl ?_)
    rintro ad rfl
    refine Pw.list (Pw.load1 rfl rfl (fun w hs => (hv w hs.all : S1 [a] (some ad, c) w).cell (i := 0) (Int.le_refl 0) (by show (0 : Int) < 1; omega)) rfl rfl ?_)
    repeat (first | refine Pw.runs ?_ | refine Pw.list (Pw.box rfl rfl rfl rfl (fun _ => ?_)) | refine Pw.list (Pw.alloc rfl rfl rfl rfl rfl (fun _ => ?_)))
    refine Pw.re (d := 26) (v' := .int .i64 0) rfl (congrArg (Value.int .i64) (show wrap64 (32 * 0) = 0 by unfold wrap64; omega)) ?_
    refine Pw.re (d := 24) (v' := .int .u64 (IntKind.u64.wrap a)) rfl rfl ?_
    refine Pw.list (Pw.shl rfl rfl rfl (by decide) rfl rfl ?_)
    refine Pw.re (d := 27) (v' := _) rfl (congrArg (Value.int .u64) (shl_0 ha)) ?_
    repeat (first | refine Pw.runs ?_ | refine Pw.list (Pw.box rfl rfl rfl rfl (fun _ => ?_)) | refine Pw.list (Pw.alloc rfl rfl rfl rfl rfl (fun _ => ?_)))
    refine Pw.re (d := 4) (v' := .int .u64 a) rfl (congrArg (Value.int .u64) (or_0 ha)) ?_
    refine Pw.re (d := 17) (v' := .int .i64 1) rfl (congrArg (Value.int .i64) (by unfold wrap64; omega)) ?_
    refine Pw.round ?_
    repeat (first | refine Pw.runs ?_ | refine Pw.list (Pw.box rfl rfl rfl rfl (fun _ => ?_)) | refine Pw.list (Pw.alloc rfl rfl rfl rfl rfl (fun _ => ?_)))
    exact Pw.ret_ (x := ()) (.tmp rfl (.tmp rfl .nil)) (by show _ = Value.tuple #[.int .u64 (val [a]), .bool true]; rw [show val [a] = a by simp [val]]; rfl) trivial (fun w h => by trivial)
  · have ha := hm a (by simp)
    have hb := hm b (by simp)
    repeat (first | refine Pw.runs ?_ | refine Pw.list (Pw.box rfl rfl rfl rfl (fun _ => ?_)) | refine Pw.list (Pw.alloc rfl rfl rfl rfl rfl (fun _ => ?_)))
    refine Pw.rounds 3 (Pw.round ?_)
    repeat (first | refine Pw.runs ?_ | refine Pw.list (Pw.box rfl rfl rfl rfl (fun _ => ?_)) | refine Pw.list (Pw.alloc rfl rfl rfl rfl rfl (fun _ => ?_)))
    refine Pw.list (Pw.index rfl rfl rfl rfl (Int.le_refl 0) (by show (0 : Int) < 2; omega) (fun w h => (hv w h : S1 [a, b] (A, c) w).has (i := 0) (Int.le_refl 0) (by show (0 : Int) < 2; omega)) rfl rfl ?_)
    rintro ad rfl
    refine Pw.list (Pw.load1 rfl rfl (fun w hs => (hv w hs.all : S1 [a, b] (some ad, c) w).cell (i := 0) (Int.le_refl 0) (by show (0 : Int) < 2; omega)) rfl rfl ?_)
    repeat (first | refine Pw.runs ?_ | refine Pw.list (Pw.box rfl rfl rfl rfl (fun _ => ?_)) | refine Pw.list (Pw.alloc rfl rfl rfl rfl rfl (fun _ => ?_)))
    refine Pw.re (d := 26) (v' := .int .i64 0) rfl (congrArg (Value.int .i64) (show wrap64 (32 * 0) = 0 by unfold wrap64; omega)) ?_
    refine Pw.re (d := 24) (v' := .int .u64 (IntKind.u64.wrap a)) rfl rfl ?_
    refine Pw.list (Pw.shl rfl rfl rfl (by decide) rfl rfl ?_)
    refine Pw.re (d := 27) (v' := _) rfl (congrArg (Value.int .u64) (shl_0 ha)) ?_
    repeat (first | refine Pw.runs ?_ | refine Pw.list (Pw.box rfl rfl rfl rfl (fun _ => ?_)) | refine Pw.list (Pw.alloc rfl rfl rfl rfl rfl (fun _ => ?_)))
    refine Pw.re (d := 4) (v' := .int .u64 a) rfl (congrArg (Value.int .u64) (or_0 ha)) ?_
    refine Pw.re (d := 17) (v' := .int .i64 1) rfl (congrArg (Value.int .i64) (by unfold wrap64; omega)) ?_
    refine Pw.round ?_
    repeat (first | refine Pw.runs ?_ | refine Pw.list (Pw.box rfl rfl rfl rfl (fun _ => ?_)) | refine Pw.list (Pw.alloc rfl rfl rfl rfl rfl (fun _ => ?_)))
    refine Pw.list (Pw.indexS rfl rfl rfl rfl (show (0 : Int) ≤ 1 by omega) (by show (1 : Int) < 2; omega) rfl rfl ?_)
    refine Pw.list (Pw.load1 rfl rfl (fun w hs => (hv w hs.all : S1 [a, b] (some ad, c) w).cell (i := 1) (by omega) (by show (1 : Int) < 2; omega)) rfl rfl ?_)
    repeat (first | refine Pw.runs ?_ | refine Pw.list (Pw.box rfl rfl rfl rfl (fun _ => ?_)) | refine Pw.list (Pw.alloc rfl rfl rfl rfl rfl (fun _ => ?_)))
    refine Pw.re (d := 26) (v' := .int .i64 32) rfl (congrArg (Value.int .i64) (show wrap64 (32 * 1) = 32 by unfold wrap64; omega)) ?_
    refine Pw.re (d := 24) (v' := .int .u64 (IntKind.u64.wrap b)) rfl rfl ?_
    refine Pw.list (Pw.shl rfl rfl rfl (by decide) rfl rfl ?_)
    refine Pw.re (d := 27) (v' := _) rfl (congrArg (Value.int .u64) (shl_32 hb)) ?_
    repeat (first | refine Pw.runs ?_ | refine Pw.list (Pw.box rfl rfl rfl rfl (fun _ => ?_)) | refine Pw.list (Pw.alloc rfl rfl rfl rfl rfl (fun _ => ?_)))
    refine Pw.re (d := 4) (v' := .int .u64 (b * 4294967296 + a)) rfl (congrArg (Value.int .u64) (or_high ha.1 ha.2 hb.1 hb.2)) ?_
    refine Pw.re (d := 17) (v' := .int .i64 2) rfl (congrArg (Value.int .i64) (by unfold wrap64; omega)) ?_
    refine Pw.round ?_
    repeat (first | refine Pw.runs ?_ | refine Pw.list (Pw.box rfl rfl rfl rfl (fun _ => ?_)) | refine Pw.list (Pw.alloc rfl rfl rfl rfl rfl (fun _ => ?_)))
    exact Pw.ret_ (x := ()) (.tmp rfl (.tmp rfl .nil)) (by show _ = Value.tuple #[.int .u64 (val [a, b]), .bool true]; rw [show val [a, b] = b * 4294967296 + a by simp [val]; omega]; rfl) trivial (fun w h => by trivial)
  · simp at c1; omega
theorem shl_00 : shl .u64 0 32 = 0 := by unfold shl; simp; exact wu (by omega) (by omega)
theorem shl_b {a : Int} (h : 0 ≤ a ∧ a ≤ 4294967295) : shl .u64 a 32 = a * 4294967296 := by
  have := shl_32 h; rwa [wu h.1 (by omega)] at this
theorem or_00 {a : Int} (h : 0 ≤ a ∧ a ≤ 4294967295) : Go.bits .or .u64 0 (IntKind.u64.wrap a) = a := by rw [wu h.1 (by omega)]; exact or_0 h
theorem or_b {a b : Int} (h : 0 ≤ a ∧ a ≤ 4294967295) (h' : 0 ≤ b ∧ b ≤ 4294967295) : Go.bits .or .u64 (b * 4294967296) (IntKind.u64.wrap a) = b * 4294967296 + a := by rw [wu h.1 (by omega)]; exact or_low h.1 h.2 h'.1 h'.2
theorem rLow_ct (l : List Int) (x : Option Addr × Nat) (hm : Lm l) (hl : l.length < 1048576) : Ct Tryz.prog 56 #[sl l x] (S1 l x) (fun _ : Unit => .tuple #[.int .u64 (lowN l).1, .bool (lowN l).2]) Tt (fun _ _ => True) := by
  obtain ⟨A, c⟩ := x
  refine Ct.start Tryz.func56 rfl rfl (slots_of rfl slots1) (fun D w0 => ?_)
  repeat (first | refine Pw.runs ?_ | refine Pw.list (Pw.box rfl rfl rfl rfl (fun _ => ?_)) | refine Pw.list (Pw.alloc rfl rfl rfl rfl rfl (fun _ => ?_)))
  refine Pw.split 9 rfl (fun c1 => ?_) (fun c1 => ?_)
  · have e : lowN l = (0, false) := if_neg (fun h => by omega)
    rw [e]
    repeat (first | refine Pw.runs ?_ | refine Pw.list (Pw.box rfl rfl rfl rfl (fun _ => ?_)) | refine Pw.list (Pw.alloc rfl rfl rfl rfl rfl (fun _ => ?_)))
    exact Pw.ret_ (x := ()) (.tmp rfl (.tmp rfl .nil)) rfl trivial (fun w h => by trivial)
  repeat (first | refine Pw.runs ?_ | refine Pw.list (Pw.box rfl rfl rfl rfl (fun _ => ?_)) | refine Pw.list (Pw.alloc rfl rfl rfl rfl rfl (fun _ => ?_)))
  refine Pw.list (Pw.call (rFormed_ct l (A, c) (by omega)) rfl rfl rfl (by kernel_rfl) rfl rfl (fun w h => (hv w h)) ?_)
  intro _ _
  cases hf : fmB l
  · have e : lowN l = (0, false) := if_neg (fun h => by rw [hf] at h; cases h.1)
    rw [e]
    repeat (first | refine Pw.runs ?_ | refine Pw.list (Pw.box rfl rfl rfl rfl (fun _ => ?_)) | refine Pw.list (Pw.alloc rfl rfl rfl rfl rfl (fun _ => ?_)))
    exact Pw.ret_ (x := ()) (.tmp rfl (.tmp rfl .nil)) rfl trivial (fun w h => by trivial)
  have e : lowN l = (val l, true) := if_pos ⟨hf, by omega⟩
  rw [e]
  rcases l with _ | ⟨a, _ | ⟨b, _ | ⟨d, r⟩⟩⟩
  · repeat (first | refine Pw.runs ?_ | refine Pw.list (Pw.box rfl rfl rfl rfl (fun _ => ?_)) | refine Pw.list (Pw.alloc rfl rfl rfl rfl rfl (fun _ => ?_)))
    refine Pw.re (d := 5) (v' := .int .i64 (-1)) rfl (congrArg (Value.int .i64) (show wrap64 (0 - 1) = -1 by unfold wrap64; omega)) ?_
    refine Pw.rounds 3 (Pw.round ?_)
    repeat (first | refine Pw.runs ?_ | refine Pw.list (Pw.box rfl rfl rfl rfl (fun _ => ?_)) | refine Pw.list (Pw.alloc rfl rfl rfl rfl rfl (fun _ => ?_)))
    exact Pw.ret_ (x := ()) (.tmp rfl (.tmp rfl .nil)) rfl trivial (fun w h => by trivial)
  · have ha := hm a (by simp)
    repeat (first | refine Pw.runs ?_ | refine Pw.list (Pw.box rfl rfl rfl rfl (fun _ => ?_)) | refine Pw.list (Pw.alloc rfl rfl rfl rfl rfl (fun _ => ?_)))
    refine Pw.re (d := 5) (v' := .int .i64 0) rfl (congrArg (Value.int .i64) (show wrap64 (1 - 1) = 0 by unfold wrap64; omega)) ?_
    refine Pw.rounds 3 (Pw.round ?_)
    repeat (first | refine Pw.runs ?_ | refine Pw.list (Pw.box rfl rfl rfl rfl (fun _ => ?_)) | refine Pw.list (Pw.alloc rfl rfl rfl rfl rfl (fun _ => ?_)))
    refine Pw.re (d := 22) (v' := .int .u64 0) rfl (congrArg (Value.int .u64) shl_00) ?_
    refine Pw.list (Pw.index rfl rfl rfl rfl (Int.le_refl 0) (by show (0 : Int) < 1; omega) (fun w h => (hv w h : S1 [a] (A, c) w).has (i := 0) (Int.le_refl 0) (by show (0 : Int) < 1; omega)) rfl rfl ?_)
    rintro ad rfl
    refine Pw.list (Pw.load1 rfl rfl (fun w hs => (hv w hs.all : S1 [a] (some ad, c) w).cell (i := 0) (Int.le_refl 0) (by show (0 : Int) < 1; omega)) rfl rfl ?_)
    repeat (first | refine Pw.runs ?_ | refine Pw.list (Pw.box rfl rfl rfl rfl (fun _ => ?_)) | refine Pw.list (Pw.alloc rfl rfl rfl rfl rfl (fun _ => ?_)))
    refine Pw.re (d := 4) (v' := .int .u64 a) rfl (congrArg (Value.int .u64) (or_00 ha)) ?_
    refine Pw.re (d := 5) (v' := .int .i64 (-1)) rfl (congrArg (Value.int .i64) (show wrap64 (0 - 1) = -1 by unfold wrap64; omega)) ?_
    refine Pw.round ?_
    repeat (first | refine Pw.runs ?_ | refine Pw.list (Pw.box rfl rfl rfl rfl (fun _ => ?_)) | refine Pw.list (Pw.alloc rfl rfl rfl rfl rfl (fun _ => ?_)))
    exact Pw.ret_ (x := ()) (.tmp rfl (.tmp rfl .nil)) (by show _ = Value.tuple #[.int .u64 (val [a]), .bool true]; rw [show val [a] = a by simp [val]]; rfl) trivial (fun w h => by trivial)
  · have ha := hm a (by simp)
    have hb := hm b (by simp)
    repeat (first | refine Pw.runs ?_ | refine Pw.list (Pw.box rfl rfl rfl rfl (fun _ => ?_)) | refine Pw.list (Pw.alloc rfl rfl rfl rfl rfl (fun _ => ?_)))
    refine Pw.re (d := 5) (v' := .int .i64 1) rfl (congrArg (Value.int .i64) (show wrap64 (2 - 1) = 1 by unfold wrap64; omega)) ?_
    refine Pw.rounds 3 (Pw.round ?_)
    repeat (first | refine Pw.runs ?_ | refine Pw.list (Pw.box rfl rfl rfl rfl (fun _ => ?_)) | refine Pw.list (Pw.alloc rfl rfl rfl rfl rfl (fun _ => ?_)))
    refine Pw.re (d := 22) (v' := .int .u64 0) rfl (congrArg (Value.int .u64) shl_00) ?_
    refine Pw.list (Pw.index rfl rfl rfl rfl (show (0 : Int) ≤ 1 by omega) (by show (1 : Int) < 2; omega) (fun w h => (hv w h : S1 [a, b] (A, c) w).has (i := 1) (by omega) (by show (1 : Int) < 2; omega)) rfl rfl ?_)
    rintro ad rfl
    refine Pw.list (Pw.load1 rfl rfl (fun w hs => (hv w hs.all : S1 [a, b] (some ad, c) w).cell (i := 1) (by omega) (by show (1 : Int) < 2; omega)) rfl rfl ?_)
    repeat (first | refine Pw.runs ?_ | refine Pw.list (Pw.box rfl rfl rfl rfl (fun _ => ?_)) | refine Pw.list (Pw.alloc rfl rfl rfl rfl rfl (fun _ => ?_)))
    refine Pw.re (d := 4) (v' := .int .u64 b) rfl (congrArg (Value.int .u64) (or_00 hb)) ?_
    refine Pw.re (d := 5) (v' := .int .i64 0) rfl (congrArg (Value.int .i64) (show wrap64 (1 - 1) = 0 by unfold wrap64; omega)) ?_
    refine Pw.round ?_
    repeat (first | refine Pw.runs ?_ | refine Pw.list (Pw.box rfl rfl rfl rfl (fun _ => ?_)) | refine Pw.list (Pw.alloc rfl rfl rfl rfl rfl (fun _ => ?_)))
    refine Pw.re (d := 22) (v' := .int .u64 (b * 4294967296)) rfl (congrArg (Value.int .u64) (shl_b hb)) ?_
    refine Pw.list (Pw.indexS rfl rfl rfl rfl (Int.le_refl 0) (by show (0 : Int) < 2; omega) rfl rfl ?_)
    refine Pw.list (Pw.load1 rfl rfl (fun w hs => (hv w hs.all : S1 [a, b] (some ad, c) w).cell (i := 0) (by omega) (by show (0 : Int) < 2; omega)) rfl rfl ?_)
    repeat (first | refine Pw.runs ?_ | refine Pw.list (Pw.box rfl rfl rfl rfl (fun _ => ?_)) | refine Pw.list (Pw.alloc rfl rfl rfl rfl rfl (fun _ => ?_)))
    refine Pw.re (d := 4) (v' := .int .u64 (b * 4294967296 + a)) rfl (congrArg (Value.int .u64) (or_b ha hb)) ?_
    refine Pw.re (d := 5) (v' := .int .i64 (-1)) rfl (congrArg (Value.int .i64) (show wrap64 (0 - 1) = -1 by unfold wrap64; omega)) ?_
    refine Pw.round ?_
    repeat (first | refine Pw.runs ?_ | refine Pw.list (Pw.box rfl rfl rfl rfl (fun _ => ?_)) | refine Pw.list (Pw.alloc rfl rfl rfl rfl rfl (fun _ => ?_)))
    exact Pw.ret_ (x := ()) (.tmp rfl (.tmp rfl .nil)) (by show _ = Value.tuple #[.int .u64 (val [a, b]), .bool true]; rw [show val [a, b] = b * 4294967296 + a by simp [val]; omega]; rfl) trivial (fun w h => by trivial)
  · simp at c1; omega
end Go.Proofs.Wk
/- Money: a part, a splitting: walked. -/
namespace Go.Proofs.Wk
open Go.RowKit
set_option maxRecDepth 100000
set_option maxHeartbeats 4000000
attribute [local irreducible] Pw OpG
set_option linter.unusedVariables false
set_option linter.unusedSimpArgs false
theorem div_nn {x y : Int} {a b : Nat} (h0 : 0 ≤ x) (hx : x < pw a) (ha : a ≤ 400) (h1 : 0 < y) (hy : y < pw b) (hb : b ≤ 400) : divS (natL x) (natL y) = (natL (x / y), natL (x % y), 0) := by
  unfold divS
  rw [if_pos ⟨fmB_natL' h0 (lt_pw_le hx ha), fmB_natL' (by omega) (lt_pw_le hy hb)⟩, val_natL h0, val_natL (by omega : 0 ≤ y), if_neg]
  intro e
  have h2 := val_natL (show 0 ≤ y by omega)
  rw [List.eq_nil_of_length_eq_zero e] at h2
  have : val [] = 0 := by decide
  omega
theorem low_nn {x : Int} (h0 : 0 ≤ x) (hx : x ≤ 18446744073709551615) : lowN (natL x) = (x, true) := by
  have h2 := pw_two
  unfold lowN
  rw [if_pos ⟨fmB_natL' h0 (lt_pw_le (show x < pw 2 by omega) (by omega)), natL_len_le h0 (by omega)⟩, val_natL h0]
theorem part_le {a n d : Int} (ha : 0 ≤ a) (hn : 0 ≤ n) (hd : 0 < d) (hle : n ≤ d) : 0 ≤ a * n / d ∧ a * n / d ≤ a := by
  refine ⟨Int.ediv_nonneg (Int.mul_nonneg ha hn) (by omega), ?_⟩
  have h1 : a * n ≤ a * d := Int.mul_le_mul_of_nonneg_left hle ha
  have h2 : a * n / d ≤ a * d / d := Int.ediv_le_ediv hd h1
  rwa [Int.mul_ediv_cancel _ (by omega)] at h2
theorem mPart_ct (a n d : Int) (ha : U64 a) (hn : U64 n) (hd : U64 d) (hd0 : 0 < d) (hle : n ≤ d) : Ct Tryz.prog 35 #[.int .u64 a, .int .u64 n, .int .u64 d] (fun _ => True) (fun _ : Unit => .tuple #[.int .u64 (a * n / d), .int .i64 0]) Tt (fun _ _ => True) := by
  unfold U64 at ha hn hd
  have h2 := pw_two
  have hp := part_le ha.1 hn.1 hd0 hle
  have hm : a * n < pw 4 := mul_lt_pw (m := 2) (n := 2) ha.1 (by omega) (by omega) hn.1
  have hm0 : 0 ≤ a * n := Int.mul_nonneg ha.1 hn.1
  refine Ct.start Tryz.func35 rfl rfl (slots_of rfl slots3) (fun D w0 => ?_)
  repeat (first | refine Pw.runs ?_ | refine Pw.list (Pw.box rfl rfl rfl rfl (fun _ => ?_)) | refine Pw.list (Pw.alloc rfl rfl rfl rfl rfl (fun _ => ?_)))
  refine Pw.list (Pw.call (Of_ct a) rfl rfl rfl (by kernel_rfl) rfl rfl (fun w h => trivial) ?_)
  intro z1 _
  repeat (first | refine Pw.runs ?_ | refine Pw.list (Pw.box rfl rfl rfl rfl (fun _ => ?_)) | refine Pw.list (Pw.alloc rfl rfl rfl rfl rfl (fun _ => ?_)))
  refine Pw.list (Pw.call (Of_ct n) rfl rfl rfl (by kernel_rfl) rfl rfl (fun w h => trivial) ?_)
  intro z2 _
  rw [ofN_natL ha.1 ha.2, ofN_natL hn.1 hn.2]
  refine Pw.list (Pw.call (Mul_ct (natL a) (natL n) z1 z2 (natL_lm _) (natL_lm _) (natL_la (a := 2) ha.1 (by omega) (by omega)) (natL_la (a := 2) hn.1 (by omega) (by omega))) rfl rfl rfl (by kernel_rfl) rfl rfl (fun w h => ⟨(hv w h), (hv w h)⟩) ?_)
  intro z3 _
  rw [show (mulS (natL a) (natL n)).1 = natL (a * n) from mul_nn (a := 2) (b := 2) ha.1 (by omega) hn.1 (by omega) (by omega)]
  repeat (first | refine Pw.runs ?_ | refine Pw.list (Pw.box rfl rfl rfl rfl (fun _ => ?_)) | refine Pw.list (Pw.alloc rfl rfl rfl rfl rfl (fun _ => ?_)))
  refine Pw.list (Pw.call (Of_ct d) rfl rfl rfl (by kernel_rfl) rfl rfl (fun w h => trivial) ?_)
  intro z4 _
  rw [ofN_natL hd.1 hd.2]
  refine Pw.list (Pw.call (DivMod_ct (natL (a * n)) (natL d) z3 z4 (natL_lm _) (natL_lm _) (natL_la (a := 4) hm0 hm (by omega)) (natL_la (a := 2) hd.1 (by omega) (by omega))) rfl rfl rfl (by kernel_rfl) rfl rfl (fun w h => ⟨(hv w h), (hv w h)⟩) ?_)
  rintro ⟨z5, z6⟩ _
  rw [div_nn (a := 4) (b := 2) hm0 hm (by omega) hd0 (by omega) (by omega)]
  repeat (first | refine Pw.runs ?_ | refine Pw.list (Pw.box rfl rfl rfl rfl (fun _ => ?_)) | refine Pw.list (Pw.alloc rfl rfl rfl rfl rfl (fun _ => ?_)))
  refine Pw.list (Pw.call (Low_ct (natL (a * n / d)) z5 (natL_lm _) (natL_la (a := 2) hp.1 (by omega) (by omega))) rfl rfl rfl (by kernel_rfl) rfl rfl (fun w h => (fact0 h).1) ?_)
  intro _ _
  rw [low_nn hp.1 (by omega)]
  repeat (first | refine Pw.runs ?_ | refine Pw.list (Pw.box rfl rfl rfl rfl (fun _ => ?_)) | refine Pw.list (Pw.alloc rfl rfl rfl rfl rfl (fun _ => ?_)))
  exact Pw.ret_ (x := ()) (.tmp rfl (.tmp rfl .nil)) rfl trivial (fun w h => trivial)
/-! ### Splittings -/
def spL (a : Int) (l : List Int) : List Int := l.map (fun s => a * s / lsum l)
theorem lsum_spl {a S : Int} (ha : 0 ≤ a) (hS : 0 < S) : ∀ {l : List Int}, (∀ s ∈ l, 0 ≤ s) → 0 ≤ lsum (l.map (fun s => a * s / S)) ∧ lsum (l.map (fun s => a * s / S)) * S ≤ a * lsum l
  | [], _ => by simp [lsum]
  | s :: l, h => by
    have ih := lsum_spl ha hS (l := l) (fun x hx => h x (List.mem_cons_of_mem _ hx))
    have h1 := h s (List.mem_cons_self ..)
    simp only [List.map_cons, lsum]
    have h2 : a * s / S * S ≤ a * s := Int.ediv_mul_le _ (by omega)
    have h3 : 0 ≤ a * s / S := Int.ediv_nonneg (Int.mul_nonneg ha h1) (by omega)
    refine ⟨by omega, ?_⟩
    rw [Int.add_mul, Int.mul_add]; omega
theorem spl_le {a : Int} (ha : 0 ≤ a) {l : List Int} (h : ∀ s ∈ l, 0 ≤ s) (hS : 0 < lsum l) (k : Nat) : 0 ≤ lsum ((spL a l).take k) ∧ lsum ((spL a l).take k) ≤ a := by
  unfold spL
  rw [← List.map_take]
  obtain ⟨h1, h2⟩ := lsum_spl ha hS (l := l.take k) (fun s hs => h s (List.mem_of_mem_take hs))
  refine ⟨h1, ?_⟩
  have h3 : lsum (l.take k) ≤ lsum l := by
    have e : lsum l = lsum (l.take k) + lsum (l.drop k) := by rw [← lsum_append, List.take_append_drop]
    have : ∀ m : List Int, (∀ s ∈ m, 0 ≤ s) → 0 ≤ lsum m := by
      intro m
      induction m with
      | nil => intro _; exact Int.le_refl _
      | cons x r ih => intro hm; have := hm x (List.mem_cons_self ..); have := ih (fun y hy => hm y (List.mem_cons_of_mem _ hy)); simp only [lsum]; omega
    have := this (l.drop k) (fun s hs => h s (List.mem_of_mem_drop hs))
    omega
  have h4 : a * lsum (l.take k) ≤ a * lsum l := Int.mul_le_mul_of_nonneg_left h3 ha
  exact Int.le_of_mul_le_mul_right (by omega) hS
theorem spl_at {a : Int} (ha : 0 ≤ a) {l : List Int} (h : ∀ s ∈ l, 0 ≤ s) (hS : 0 < lsum l) {s : Int} (hs : s ∈ l) : s ≤ lsum l ∧ 0 ≤ a * s / lsum l ∧ a * s / lsum l ≤ a := by
  have h1 : s ≤ lsum l := by
    have : ∀ m : List Int, (∀ s ∈ m, 0 ≤ s) → ∀ x ∈ m, 0 ≤ lsum m ∧ x ≤ lsum m := by
      intro m
      induction m with
      | nil => intro _ x hx; cases hx
      | cons y r ih =>
        intro hm x hx
        have h0 := hm y (List.mem_cons_self ..)
        have hr : 0 ≤ lsum r := by
          cases r with
          | nil => exact Int.le_refl _
          | cons z r => exact (ih (fun y hy => hm y (List.mem_cons_of_mem _ hy)) z (List.mem_cons_self ..)).1
        simp only [lsum]
        rcases List.mem_cons.1 hx with rfl | hx
        · omega
        · have := ih (fun y hy => hm y (List.mem_cons_of_mem _ hy)) x hx; omega
    exact (this l h s hs).2
  exact ⟨h1, part_le ha (h s hs) hS h1⟩
theorem mSplitOk_ct (a : Int) (l : List Int) (x : Option Addr × Nat) (ha : U64 a) (hb : ∀ n ∈ l, U64 n) (hl : l.length ≤ 100000) (hS : 0 < lsum l) (hS2 : lsum l ≤ 18446744073709551615) :
    Ct Tryz.prog 38 #[.int .u64 a, sl l x] (U1 l x) (fun z : Option Addr × Nat => .tuple #[sl (spL a l) z, .int .u64 (a - lsum (spL a l)), .int .i64 0]) Tt (fun z => U1 (spL a l) z) := by
  obtain ⟨A, c⟩ := x
  have hsm : sumM l = (lsum l, 0) := by unfold sumM; rw [if_pos hS2]
  have h0 : ∀ s ∈ l, 0 ≤ s := fun s hs => (hb s hs).1
  have htop : l.length ≤ 9223372036854775807 := by omega
  have hll : (spL a l).length = l.length := by unfold spL; rw [List.length_map]
  refine Ct.start Tryz.func38 rfl rfl (slots_of rfl slots2) (fun D w0 => ?_)
  repeat (first | refine Pw.runs ?_ | refine Pw.list (Pw.box rfl rfl rfl rfl (fun _ => ?_)) | refine Pw.list (Pw.alloc rfl rfl rfl rfl rfl (fun _ => ?_)))
  refine Pw.list (Pw.call (mSum_ct l (A, c) hb) rfl rfl rfl (by kernel_rfl) rfl rfl (fun w h => (hv w h)) ?_)
  intro _ _
  rw [hsm]
  repeat (first | refine Pw.runs ?_ | refine Pw.list (Pw.box rfl rfl rfl rfl (fun _ => ?_)) | refine Pw.list (Pw.alloc rfl rfl rfl rfl rfl (fun _ => ?_)))
  refine Pw.re (d := 24) (v' := .bool false) rfl (congrArg Value.bool (decide_eq_false (by omega))) ?_
  repeat (first | refine Pw.runs ?_ | refine Pw.list (Pw.box rfl rfl rfl rfl (fun _ => ?_)) | refine Pw.list (Pw.alloc rfl rfl rfl rfl rfl (fun _ => ?_)))
  refine Pw.loopJ (σ := Nat × Gr) (fun t => t.1 ≤ l.length ∧ gOk t.2 (((spL a l).take t.1).map (Value.int .u64)) t.1 1) (fun t => ⟨[(0, .int .u64 a), (7, .int .u64 (lsum l)), (9, .int .u64 (a - lsum ((spL a l).take t.1))), (10, gv t.2 t.1), (28, .slice A l.length c), (29, .int .i64 l.length), (30, .int .i64 t.1)], gL1 t.2 (((spL a l).take t.1).map (Value.int .u64)) 22, [U1 l (A, c)]⟩) (fun t => l.length - t.1) (0, none) ⟨Nat.zero_le _, rfl, rfl⟩ (Pw.enter ⟨rfl, by rfl, by show some (Value.int .u64 a) = some (.int .u64 (a - 0)); rw [Int.sub_zero], rfl, rfl, rfl, rfl, trivial⟩ (fun w h => allCons (hv w h) allNil)) ?_
  rintro ⟨i, q⟩ ⟨hi, hq⟩
  dsimp only at hi hq ⊢
  repeat (first | refine Pw.runs ?_ | refine Pw.list (Pw.box rfl rfl rfl rfl (fun _ => ?_)) | refine Pw.list (Pw.alloc rfl rfl rfl rfl rfl (fun _ => ?_)))
  refine Pw.condD rfl (fun c3 => ?_) (fun c3 => ?_)
  · have hi0 : (0 : Int) ≤ (i : Int) := Int.natCast_nonneg i
    obtain ⟨s, hs, hm⟩ := get_at (show i < l.length by omega)
    obtain ⟨e1, e2, e3⟩ := spl_at ha.1 h0 hS hm
    have hsp : (spL a l)[i]? = some (a * s / lsum l) := by unfold spL; rw [List.getElem?_map, hs]; rfl
    have ht := take_snoc hsp
    have hle := spl_le ha.1 h0 hS i
    have hle2 := spl_le ha.1 h0 hS (i + 1)
    rw [ht, lsum_snoc] at hle2
    have ha2 := ha.2
    repeat (first | refine Pw.runs ?_ | refine Pw.list (Pw.box rfl rfl rfl rfl (fun _ => ?_)) | refine Pw.list (Pw.alloc rfl rfl rfl rfl rfl (fun _ => ?_)))
    refine Pw.list (Pw.index rfl rfl rfl rfl hi0 c3 (fun w h => (hv w h : U1 l (A, c) w).has hi0 c3) rfl rfl ?_)
    rintro ad rfl
    refine Pw.list (Pw.load1 rfl rfl (fun w hs => (hv w hs.all : U1 l (some ad, c) w).cell hi0 c3) rfl rfl ?_)
    rw [get_rd hs]
    repeat (first | refine Pw.runs ?_ | refine Pw.list (Pw.box rfl rfl rfl rfl (fun _ => ?_)) | refine Pw.list (Pw.alloc rfl rfl rfl rfl rfl (fun _ => ?_)))
    refine Pw.list (Pw.call (mPart_ct a s (lsum l) ha (hb s hm) ⟨by omega, hS2⟩ hS e1) rfl rfl rfl (by kernel_rfl) rfl rfl (fun w h => trivial) ?_)
    intro _ _
    repeat (first | refine Pw.runs ?_ | refine Pw.list (Pw.box rfl rfl rfl rfl (fun _ => ?_)) | refine Pw.list (Pw.alloc rfl rfl rfl rfl rfl (fun _ => ?_)))
    refine Pw.list (Pw.lit1 rfl rfl rfl rfl rfl rfl rfl rfl rfl (fun g2 => ?_))
    refine freeHead ?_
    refine Pw.list (Pw.push (s := q) (news := [.int .u64 (a * s / lsum l)]) rfl rfl rfl rfl rfl rfl rfl hq rfl (fun u hu => by rw [List.mem_singleton.1 hu]; rfl) (fun w hs j u hu => by
      have h1 : w.heap[g2]? = some (row [.int .u64 (a * s / lsum l)] 22) := fact0 hs.all
      rw [add_none, cell_of_blk h1]
      simpa using hu) (by omega) (by simp only [maxLen]; omega) (by show (i + 1) * 8 ≤ _; omega) rfl rfl (fun q' hq' => ?_))
    have e4 : ((spL a l).take i).map (Value.int .u64) ++ [.int .u64 (a * s / lsum l)] = ((spL a l).take (i + 1)).map (Value.int .u64) := by rw [ht]; simp
    rw [e4] at hq' ⊢
    repeat (first | refine Pw.runs ?_ | refine Pw.list (Pw.box rfl rfl rfl rfl (fun _ => ?_)) | refine Pw.list (Pw.alloc rfl rfl rfl rfl rfl (fun _ => ?_)))
    refine Pw.re (d := 9) (v' := .int .u64 (a - lsum ((spL a l).take (i + 1)))) rfl (congrArg (Value.int .u64) (by rw [ht, lsum_snoc]; rw [wu (by omega) (by omega)]; omega)) ?_
    refine Pw.re (d := 30) (v' := .int .i64 ((i + 1 : Nat) : Int)) rfl (congrArg (Value.int .i64) (i64s (by omega) htop)) ?_
    exact Pw.again (i + 1, q') ⟨by show i + 1 ≤ l.length; omega, hq'⟩ (by show l.length - (i + 1) < l.length - i; omega) ⟨rfl, rfl, rfl, rfl, rfl, rfl, rfl, trivial⟩ rfl (fun w h => allCons (hv w h) allNil)
  · obtain rfl : i = l.length := by omega
    rw [← hll, List.take_length] at hq ⊢
    refine Pw.freeG hq (fun A' c' e hc => ?_)
    rw [e]
    repeat (first | refine Pw.runs ?_ | refine Pw.list (Pw.box rfl rfl rfl rfl (fun _ => ?_)) | refine Pw.list (Pw.alloc rfl rfl rfl rfl rfl (fun _ => ?_)))
    exact Pw.ret_ (x := (A', c')) (.tmp rfl (.tmp rfl (.tmp rfl .nil))) rfl trivial (fun w h => ints_of_cells hc (by simp only [maxLen]; omega) (fact0 h))
theorem mSplitErr_ct (a : Int) (l : List Int) (x : Option Addr × Nat) (hb : ∀ n ∈ l, U64 n) (hS : ¬ (0 < lsum l ∧ lsum l ≤ 18446744073709551615)) :
    Ct Tryz.prog 38 #[.int .u64 a, sl l x] (U1 l x) (fun _ : Unit => .tuple #[.slice none 0 0, .int .u64 0, .int .i64 (if lsum l ≤ 18446744073709551615 then 5 else 3)]) Tt (fun _ _ => True) := by
  obtain ⟨A, c⟩ := x
  have h0 := lsum_nonneg hb
  by_cases hf : lsum l ≤ 18446744073709551615
  · have hz : lsum l = 0 := by omega
    have hsm : sumM l = (0, 0) := by unfold sumM; rw [if_pos hf, hz]
    rw [if_pos hf]
    refine Ct.start Tryz.func38 rfl rfl (slots_of rfl slots2) (fun D w0 => ?_)
    repeat (first | refine Pw.runs ?_ | refine Pw.list (Pw.box rfl rfl rfl rfl (fun _ => ?_)) | refine Pw.list (Pw.alloc rfl rfl rfl rfl rfl (fun _ => ?_)))
    refine Pw.list (Pw.call (mSum_ct l (A, c) hb) rfl rfl rfl (by kernel_rfl) rfl rfl (fun w h => (hv w h)) ?_)
    intro _ _
    rw [hsm]
    repeat (first | refine Pw.runs ?_ | refine Pw.list (Pw.box rfl rfl rfl rfl (fun _ => ?_)) | refine Pw.list (Pw.alloc rfl rfl rfl rfl rfl (fun _ => ?_)))
    exact Pw.ret_ (x := ()) (.tmp rfl (.tmp rfl (.tmp rfl .nil))) rfl trivial (fun w h => trivial)
  · have hsm : sumM l = (0, 3) := by unfold sumM; rw [if_neg hf]
    rw [if_neg hf]
    refine Ct.start Tryz.func38 rfl rfl (slots_of rfl slots2) (fun D w0 => ?_)
    repeat (first | refine Pw.runs ?_ | refine Pw.list (Pw.box rfl rfl rfl rfl (fun _ => ?_)) | refine Pw.list (Pw.alloc rfl rfl rfl rfl rfl (fun _ => ?_)))
    refine Pw.list (Pw.call (mSum_ct l (A, c) hb) rfl rfl rfl (by kernel_rfl) rfl rfl (fun w h => (hv w h)) ?_)
    intro _ _
    rw [hsm]
    repeat (first | refine Pw.runs ?_ | refine Pw.list (Pw.box rfl rfl rfl rfl (fun _ => ?_)) | refine Pw.list (Pw.alloc rfl rfl rfl rfl rfl (fun _ => ?_)))
    exact Pw.ret_ (x := ()) (.tmp rfl (.tmp rfl (.tmp rfl .nil))) rfl trivial (fun w h => trivial)
/-- A splitting; what can't be split is left. -/
def spF (a : Int) (l : List Int) : List Int × Int := if 0 < lsum l ∧ lsum l ≤ 18446744073709551615 then (spL a l, a - lsum (spL a l)) else (l.map (fun _ => 0), a)
theorem spF_len (a : Int) (l : List Int) : (spF a l).1.length = l.length := by unfold spF spL; split <;> simp
theorem psplit_ct (a : Int) (l : List Int) (x : Option Addr × Nat) (ha : U64 a) (hb : ∀ n ∈ l, U64 n) (hl : l.length ≤ 100000) :
    Ct Tryz.prog 20 #[.int .u64 a, sl l x] (U1 l x) (fun z : Option Addr × Nat => .tuple #[sl (spF a l).1 z, .int .u64 (spF a l).2]) Tt (fun z => U1 (spF a l).1 z) := by
  obtain ⟨A, c⟩ := x
  refine Ct.start Tryz.func20 rfl rfl (slots_of rfl slots2) (fun D w0 => ?_)
  by_cases hS : 0 < lsum l ∧ lsum l ≤ 18446744073709551615
  · rw [show spF a l = (spL a l, a - lsum (spL a l)) from if_pos hS]
    repeat (first | refine Pw.runs ?_ | refine Pw.list (Pw.box rfl rfl rfl rfl (fun _ => ?_)) | refine Pw.list (Pw.alloc rfl rfl rfl rfl rfl (fun _ => ?_)))
    refine Pw.list (Pw.call (mSplitOk_ct a l (A, c) ha hb hl hS.1 hS.2) rfl rfl rfl (by kernel_rfl) rfl rfl (fun w h => (hv w h)) ?_)
    intro z _
    repeat (first | refine Pw.runs ?_ | refine Pw.list (Pw.box rfl rfl rfl rfl (fun _ => ?_)) | refine Pw.list (Pw.alloc rfl rfl rfl rfl rfl (fun _ => ?_)))
    exact Pw.ret_ (x := z) (.tmp rfl (.tmp rfl .nil)) rfl trivial (fun w h => (hv w h))
  · have e : spF a l = (List.replicate l.length 0, a) := by
      unfold spF; rw [if_neg hS, List.map_const']
    have hne : ¬ ((if lsum l ≤ 18446744073709551615 then 5 else 3 : Int) = 0) := by split <;> omega
    rw [e]
    repeat (first | refine Pw.runs ?_ | refine Pw.list (Pw.box rfl rfl rfl rfl (fun _ => ?_)) | refine Pw.list (Pw.alloc rfl rfl rfl rfl rfl (fun _ => ?_)))
    refine Pw.list (Pw.call (mSplitErr_ct a l (A, c) hb hS) rfl rfl rfl (by kernel_rfl) rfl rfl (fun w h => (hv w h)) ?_)
    intro _ _
    repeat (first | refine Pw.runs ?_ | refine Pw.list (Pw.box rfl rfl rfl rfl (fun _ => ?_)) | refine Pw.list (Pw.alloc rfl rfl rfl rfl rfl (fun _ => ?_)))
    refine Pw.condD rfl (fun c1 => ?_) (fun c1 => absurd c1 (by simpa using hne))
    repeat (first | refine Pw.runs ?_ | refine Pw.list (Pw.box rfl rfl rfl rfl (fun _ => ?_)) | refine Pw.list (Pw.alloc rfl rfl rfl rfl rfl (fun _ => ?_)))
    refine Pw.list (Pw.make (m := l.length) rfl rfl rfl rfl rfl rfl (by show 8 * l.length ≤ _; omega) (by simp only [maxLen]; omega) rfl rfl (fun g => freeHead ?_))
    repeat (first | refine Pw.runs ?_ | refine Pw.list (Pw.box rfl rfl rfl rfl (fun _ => ?_)) | refine Pw.list (Pw.alloc rfl rfl rfl rfl rfl (fun _ => ?_)))
    have hlr : (List.replicate l.length (0 : Int)).length = l.length := List.length_replicate
    exact Pw.ret_ (x := (some ⟨g, 0, none⟩, l.length)) (.tmp rfl (.tmp rfl .nil)) (by show Value.tuple #[.slice _ l.length _, _] = .tuple #[.slice _ (List.replicate l.length (0 : Int)).length _, _]; rw [hlr]) trivial (fun w h => ints_of_row' (l := List.replicate l.length 0) (by have := fact0 h; simpa using this) (by rw [hlr]; exact Nat.le_refl _) (by rw [hlr]; simp only [maxLen]; omega))
end Go.Proofs.Wk
/- Marks walked. -/
namespace Go.Proofs.Wk
open Go.RowKit
set_option maxRecDepth 100000
set_option maxHeartbeats 4000000
attribute [local irreducible] Pw OpG
set_option linter.unusedVariables false
set_option linter.unusedSimpArgs false
/-- Bytes that say which of n are marked. -/
structure MkOk (pd : List Bool) (b : List Int) : Prop where
  l : b.length = (pd.length + 7) / 8
  r : ∀ x ∈ b, 0 ≤ x ∧ x ≤ 255
  h : ∀ (i : Nat) (p : Bool), pd[i]? = some p → bitB (rd b ((i / 8 : Nat) : Int)) (i % 8) = p
abbrev mkB (gb : Nat) (b : List Int) : Blk := ⟨gb, row (b.map (Value.int .u8)) 5⟩
abbrev mkF (gm gb : Nat) (n : Nat) (W : World) : Prop := W.heap[gm]? = some (row [.int .i64 n, .slice (some ⟨gb, 0, none⟩) ((n + 7) / 8) ((n + 7) / 8)] 110)
theorem mk_new (n : Nat) : MkOk (List.replicate n false) (List.replicate ((n + 7) / 8) 0) := by
  refine ⟨by simp, fun x hx => by rw [(List.mem_replicate.1 hx).2]; omega, fun i p hp => ?_⟩
  have hi : i < n := by have := (List.getElem?_eq_some_iff.1 hp).1; simpa using this
  have hpf : p = false := by
    have := (List.getElem?_eq_some_iff.1 hp).2
    simpa using this.symm
  have h0 : rd (List.replicate ((n + 7) / 8) (0 : Int)) ((i / 8 : Nat) : Int) = 0 := by
    refine get_rd (l := List.replicate ((n + 7) / 8) (0 : Int)) ?_
    rw [List.getElem?_replicate, if_pos (by omega)]
  rw [h0, hpf]
  exact bit_zero ⟨i % 8, by omega⟩
theorem mk_set {pd : List Bool} {b : List Int} (h : MkOk pd b) {i : Nat} (hi : i < pd.length) : MkOk (pd.set i true) (b.set (i / 8) (Go.bits .or .u8 (rd b ((i / 8 : Nat) : Int)) (2 ^ (i % 8)))) := by
  have hl := h.l
  have hib : i / 8 < b.length := by omega
  have hx : b[i / 8]? = some (rd b ((i / 8 : Nat) : Int)) := by
    rw [List.getElem?_eq_getElem hib, get_rd (List.getElem?_eq_getElem hib)]
  have hr := h.r _ (List.mem_of_getElem? hx)
  refine ⟨by rw [List.length_set, List.length_set]; exact hl, fun x hx' => ?_, fun j p hp => ?_⟩
  · rcases List.mem_or_eq_of_mem_set hx' with hx' | rfl
    · exact h.r x hx'
    · exact bit_rng hr.1 hr.2 (by omega)
  · have hj : j < pd.length := by have := (List.getElem?_eq_some_iff.1 hp).1; simpa using this
    rw [List.getElem?_set] at hp
    have hold := h.h j pd[j] (List.getElem?_eq_getElem hj)
    by_cases e : i / 8 = j / 8
    · have h1 : rd (b.set (i / 8) (Go.bits .or .u8 (rd b ((i / 8 : Nat) : Int)) (2 ^ (i % 8)))) ((j / 8 : Nat) : Int) = Go.bits .or .u8 (rd b ((i / 8 : Nat) : Int)) (2 ^ (i % 8)) := get_rd (by rw [← e, List.getElem?_set, if_pos rfl, if_pos hib])
      rw [h1, bit_set hr.1 hr.2 (by omega) (by omega), e, hold]
      by_cases hij : i = j
      · subst hij
        rw [if_pos rfl, if_pos hi] at hp
        rw [← Option.some.inj hp]; simp
      · rw [if_neg hij, List.getElem?_eq_getElem hj] at hp
        rw [← Option.some.inj hp]
        have : ¬ j % 8 = i % 8 := by omega
        rw [decide_eq_false this, Bool.or_false]
    · have h1 : rd (b.set (i / 8) (Go.bits .or .u8 (rd b ((i / 8 : Nat) : Int)) (2 ^ (i % 8)))) ((j / 8 : Nat) : Int) = rd b ((j / 8 : Nat) : Int) := by
        have hjb : j / 8 < b.length := by omega
        refine get_rd (l := b.set _ _) ?_
        rw [List.getElem?_set, if_neg e, List.getElem?_eq_getElem hjb, get_rd (List.getElem?_eq_getElem hjb)]
      rw [h1, hold]
      rw [if_neg (fun he => e (by rw [he])), List.getElem?_eq_getElem hj] at hp
      exact Option.some.inj hp
theorem mkNew_ct (n : Nat) (hn : n ≤ 4096) : CtB Tryz.prog 24 #[.int .i64 (n : Int)] [] (fun _ => True) (fun y : Nat × Nat => .pointer (some ⟨y.1, 0, none⟩)) Tt (fun y => [mkB y.2 (List.replicate ((n + 7) / 8) 0)]) (fun y W => mkF y.1 y.2 n W) := by
  refine CtB.start Tryz.func24 rfl rfl (slots_of rfl slots1) (fun D0 w0 => ?_)
  repeat (first | refine Pw.runs ?_ | refine Pw.list (Pw.box rfl rfl rfl rfl (fun _ => ?_)) | refine Pw.list (Pw.alloc rfl rfl rfl rfl rfl (fun _ => ?_)))
  refine Pw.list (Pw.bmax rfl rfl rfl rfl ?_)
  repeat (first | refine Pw.runs ?_ | refine Pw.list (Pw.box rfl rfl rfl rfl (fun _ => ?_)) | refine Pw.list (Pw.alloc rfl rfl rfl rfl rfl (fun _ => ?_)))
  refine Pw.list (Pw.bmin rfl rfl rfl rfl ?_)
  refine Pw.re (d := 5) (v' := .int .i64 (n : Int)) rfl (congrArg (Value.int .i64) (by (repeat' split) <;> omega)) ?_
  repeat (first | refine Pw.runs ?_ | refine Pw.list (Pw.box rfl rfl rfl rfl (fun _ => ?_)) | refine Pw.list (Pw.alloc rfl rfl rfl rfl rfl (fun _ => ?_)))
  refine Pw.re (d := 9) (v' := .int .i64 (((n + 7) / 8 : Nat) : Int)) rfl (congrArg (Value.int .i64) (by
    rw [wi64 (n := (n : Int) + 7) (by omega) (by omega), show ((n : Int) + 7).tdiv 8 = (((n + 7) / 8 : Nat) : Int) from rfl]
    exact wi64 (by omega) (by omega))) ?_
  refine Pw.list (Pw.make (m := (n + 7) / 8) rfl rfl rfl rfl rfl rfl (by show 1 * ((n + 7) / 8) ≤ _; omega) (by simp only [maxLen]; omega) rfl rfl (fun gb => ?_))
  repeat (first | refine Pw.runs ?_ | refine Pw.list (Pw.box rfl rfl rfl rfl (fun _ => ?_)) | refine Pw.list (Pw.alloc rfl rfl rfl rfl rfl (fun _ => ?_)))
  rename_i gm
  refine freeHead ?_
  exact Pw.retB (x := (gm, gb)) (by show List.Sublist [(⟨gb, row ((List.replicate ((n + 7) / 8) (0 : Int)).map (Value.int .u8)) 5⟩ : Blk)] _; rw [List.map_replicate]; exact List.Sublist.refl _) (.tmp rfl .nil) rfl trivial (fun w h => (fx h))
theorem mkHas_ct (gm gb : Nat) (pd : List Bool) (b : List Int) (h : MkOk pd b) (hl : pd.length ≤ 4096) (i : Int) : Ct Tryz.prog 33 #[.pointer (some ⟨gm, 0, none⟩), .int .i64 i] (fun W => mkF gm gb pd.length W ∧ W.heap[gb]? = some (row (b.map (Value.int .u8)) 5)) (fun _ : Unit => .bool (decide (0 ≤ i) && (pd[i.toNat]?).getD false)) Tt (fun _ _ => True) := by
  have hbl := h.l
  refine Ct.start Tryz.func33 rfl rfl (slots_of rfl slots2) (fun D w0 => Pw.facts (G' := [mkF gm gb pd.length, Ints .u8 b (some ⟨gb, 0, none⟩) ((pd.length + 7) / 8)]) (fun w h => allCons (fact0 h).1 (allCons (ints_of_row' (fact0 h).2 (by omega) (by simp only [maxLen]; omega)) allNil)) ?_)
  repeat (first | refine Pw.runs ?_ | refine Pw.list (Pw.box rfl rfl rfl rfl (fun _ => ?_)) | refine Pw.list (Pw.alloc rfl rfl rfl rfl rfl (fun _ => ?_)))
  by_cases c1 : 0 ≤ i
  · obtain ⟨k, rfl⟩ := Int.eq_ofNat_of_zero_le c1
    rw [decide_eq_true c1, Bool.true_and, Int.toNat_natCast]
    repeat (first | refine Pw.runs ?_ | refine Pw.list (Pw.box rfl rfl rfl rfl (fun _ => ?_)) | refine Pw.list (Pw.alloc rfl rfl rfl rfl rfl (fun _ => ?_)))
    by_cases c2 : (k : Int) < (pd.length : Int)
    · obtain ⟨p, hp, _⟩ := get_at (show k < pd.length by omega)
      have hb := h.h k p hp
      refine Pw.re (d := 19) (v' := .bool true) rfl (congrArg Value.bool (decide_eq_true c2)) ?_
      repeat (first | refine Pw.runs ?_ | refine Pw.list (Pw.box rfl rfl rfl rfl (fun _ => ?_)) | refine Pw.list (Pw.alloc rfl rfl rfl rfl rfl (fun _ => ?_)))
      refine Pw.re (d := 25) (v' := .int .i64 ((k / 8 : Nat) : Int)) rfl (congrArg (Value.int .i64) (by
        rw [show (k : Int).tdiv 8 = ((k / 8 : Nat) : Int) from rfl]; exact wi64 (by omega) (by omega))) ?_
      have hk0 : (0 : Int) ≤ ((k / 8 : Nat) : Int) := Int.natCast_nonneg _
      have hk1 : ((k / 8 : Nat) : Int) < (((pd.length + 7) / 8 : Nat) : Int) := by omega
      have hk2 : ((k / 8 : Nat) : Int) < ((b.length : Nat) : Int) := by omega
      refine Pw.list (Pw.indexS rfl rfl rfl rfl hk0 hk1 rfl rfl ?_)
      refine Pw.list (Pw.load1 rfl rfl (fun w hs => (hv w hs.all : Ints .u8 b (some ⟨gb, 0, none⟩) ((pd.length + 7) / 8) w).cell hk0 hk2) rfl rfl ?_)
      repeat (first | refine Pw.runs ?_ | refine Pw.list (Pw.box rfl rfl rfl rfl (fun _ => ?_)) | refine Pw.list (Pw.alloc rfl rfl rfl rfl rfl (fun _ => ?_)))
      exact Pw.ret_ (x := ()) (.tmp rfl .nil) (congrArg Value.bool (by rw [hp, Option.getD_some, ← hb]; rfl)) trivial (fun w h => trivial)
    · refine Pw.re (d := 19) (v' := .bool false) rfl (congrArg Value.bool (decide_eq_false c2)) ?_
      repeat (first | refine Pw.runs ?_ | refine Pw.list (Pw.box rfl rfl rfl rfl (fun _ => ?_)) | refine Pw.list (Pw.alloc rfl rfl rfl rfl rfl (fun _ => ?_)))
      exact Pw.ret_ (x := ()) (.tmp rfl .nil) (congrArg Value.bool (by rw [List.getElem?_eq_none (by omega)]; rfl)) trivial (fun w h => trivial)
  · rw [decide_eq_false c1]
    repeat (first | refine Pw.runs ?_ | refine Pw.list (Pw.box rfl rfl rfl rfl (fun _ => ?_)) | refine Pw.list (Pw.alloc rfl rfl rfl rfl rfl (fun _ => ?_)))
    exact Pw.ret_ (x := ()) (.tmp rfl .nil) rfl trivial (fun w h => trivial)
theorem shl8 (k : Nat) (hk : k < 8) : IntKind.u8.wrap (1 * 2 ^ min k IntKind.u8.bits) = 2 ^ k := by
  have h : ∀ k : Fin 8, IntKind.u8.wrap (1 * 2 ^ min (k : Nat) IntKind.u8.bits) = 2 ^ (k : Nat) := by decide +kernel
  exact h ⟨k, hk⟩
theorem mkSet_ct (gm gb : Nat) (pd : List Bool) (b : List Int) (h : MkOk pd b) (hl : pd.length ≤ 4096) (i : Nat) (hi : i < pd.length) : CtB Tryz.prog 34 #[.pointer (some ⟨gm, 0, none⟩), .int .i64 (i : Int)] [mkB gb b] (mkF gm gb pd.length) (fun _ : Unit => .int .i64 (if (pd[i]?).getD false = true then 6 else 0)) Tt
    (fun _ => [mkB gb (if (pd[i]?).getD false = true then b else b.set (i / 8) (Go.bits .or .u8 (rd b ((i / 8 : Nat) : Int)) (2 ^ (i % 8))))]) (fun _ _ => True) := by
  have hbl := h.l
  obtain ⟨p, hp, _⟩ := get_at hi
  rw [hp, Option.getD_some]
  refine CtB.start Tryz.func34 rfl rfl (slots_of rfl slots2) (fun D0 w0 => ?_)
  have hi0 : (0 : Int) ≤ (i : Int) := Int.natCast_nonneg _
  repeat (first | refine Pw.runs ?_ | refine Pw.list (Pw.box rfl rfl rfl rfl (fun _ => ?_)) | refine Pw.list (Pw.alloc rfl rfl rfl rfl rfl (fun _ => ?_)))
  refine Pw.re (d := 8) (v' := .bool false) rfl (congrArg Value.bool (decide_eq_false (by omega))) ?_
  repeat (first | refine Pw.runs ?_ | refine Pw.list (Pw.box rfl rfl rfl rfl (fun _ => ?_)) | refine Pw.list (Pw.alloc rfl rfl rfl rfl rfl (fun _ => ?_)))
  refine Pw.list (Pw.callR (mkHas_ct gm gb pd b h hl (i : Int)) rfl rfl rfl (by kernel_rfl) rfl rfl (fun w hs => ⟨hv w hs.all, hs.own (mkB gb b) (.head _)⟩) ?_)
  intro _ _
  rw [decide_eq_true hi0, Bool.true_and, Int.toNat_natCast, hp, Option.getD_some]
  cases p
  · have hk0 : (0 : Int) ≤ ((i / 8 : Nat) : Int) := Int.natCast_nonneg _
    have hk1 : ((i / 8 : Nat) : Int) < (((pd.length + 7) / 8 : Nat) : Int) := by omega
    have hk2 : ((i / 8 : Nat) : Int) < ((b.length : Nat) : Int) := by omega
    repeat (first | refine Pw.runs ?_ | refine Pw.list (Pw.box rfl rfl rfl rfl (fun _ => ?_)) | refine Pw.list (Pw.alloc rfl rfl rfl rfl rfl (fun _ => ?_)))
    refine Pw.drawnG mixed rfl rfl ?_
    refine Pw.takeP 0 (nb 14 1) rfl rfl rfl rfl (by kernel_rfl) np sf ?_
    refine Pw.takeP 1 (nb 14 3) rfl rfl rfl rfl (by kernel_rfl) np sf ?_
    refine Pw.takeP 2 (nb 14 7) rfl rfl rfl rfl (by kernel_rfl) np sf ?_
    refine Pw.takeF 3 (nb 14 15) rfl rfl inferInstance rfl rfl rfl (by kernel_rfl) np sf ?_
    refine Pw.takeP 4 (nb 14 31) rfl rfl rfl rfl (by kernel_rfl) np sf ?_
    refine Pw.takeP 5 (nb 14 63) rfl rfl rfl rfl (by kernel_rfl) np sf ?_
    refine Pw.re (d := 28) (v' := .int .i64 ((i / 8 : Nat) : Int)) rfl (congrArg (Value.int .i64) (by rw [show (i : Int).tdiv 8 = ((i / 8 : Nat) : Int) from rfl]; exact wi64 (by omega) (by omega))) ?_
    refine Pw.takeIx 6 (nb 14 127) rfl rfl rfl rfl rfl hk0 hk1 rfl rfl (by kernel_rfl) np sf ?_
    refine Pw.re (d := 29) (v' := .pointer (some ⟨gb, 0 + ((i / 8 : Nat) : Int).toNat * 1, none⟩)) rfl (congrArg (fun a => Value.pointer (some a)) (own_index (j := 0))) ?_
    refine Pw.takeP 8 (nb 14 383) rfl rfl rfl rfl (by kernel_rfl) np sf ?_
    refine Pw.takeP 9 (nb 14 895) rfl rfl rfl rfl (by kernel_rfl) np sf ?_
    refine Pw.re (d := 32) (v' := .int .i64 ((i % 8 : Nat) : Int)) rfl rfl ?_
    refine Pw.takeP 10 (nb 14 1919) rfl rfl rfl rfl (by kernel_rfl) np sf ?_
    refine Pw.re (d := 33) (v' := .int .u8 (2 ^ (i % 8))) rfl (congrArg (Value.int .u8) (shl8 (i % 8) (by omega))) ?_
    refine Pw.one 7 (nb 14 2047) rfl (by kernel_rfl) ?_
    refine Pw.loadI (out := b) rfl rfl rfl (.head _) hk0 hk2 rfl rfl ?_
    refine Pw.held sf ?_
    refine Pw.takeP 11 (nb 14 4095) rfl rfl rfl rfl (by kernel_rfl) np sf ?_
    refine Pw.takeIx 12 (nb 14 8191) rfl rfl rfl rfl rfl hk0 hk1 rfl rfl (by kernel_rfl) np sf ?_
    refine Pw.re (d := 35) (v' := .pointer (some ⟨gb, 0 + ((i / 8 : Nat) : Int).toNat * 1, none⟩)) rfl (congrArg (fun a => Value.pointer (some a)) (own_index (j := 0))) ?_
    refine Pw.one 13 (nb 14 16383) rfl (by kernel_rfl) ?_
    refine Pw.storeI (out := b) rfl rfl rfl rfl rfl hk0 hk2 .head rfl ?_
    rw [Int.toNat_natCast]
    refine Pw.held sf ?_
    refine Pw.done (by kernel_rfl) ?_
    skip
    repeat (first | refine Pw.runs ?_ | refine Pw.list (Pw.box rfl rfl rfl rfl (fun _ => ?_)) | refine Pw.list (Pw.alloc rfl rfl rfl rfl rfl (fun _ => ?_)))
    exact Pw.retB (x := ()) (List.Sublist.refl _) (.tmp rfl .nil) rfl trivial (fun w h => trivial)
  · repeat (first | refine Pw.runs ?_ | refine Pw.list (Pw.box rfl rfl rfl rfl (fun _ => ?_)) | refine Pw.list (Pw.alloc rfl rfl rfl rfl rfl (fun _ => ?_)))
    exact Pw.retB (x := ()) (List.Sublist.refl _) (.tmp rfl .nil) rfl trivial (fun w h => trivial)
end Go.Proofs.Wk
/- Rewards: points that count; the reward's facts. -/
namespace Go.Proofs.Wk
open Go.RowKit
set_option maxRecDepth 100000
set_option maxHeartbeats 4000000
attribute [local irreducible] Pw OpG
set_option linter.unusedVariables false
set_option linter.unusedSimpArgs false
def encX (x : Ex) : List Value := [.int .i64 x.id, .int .u64 x.com, .int .u64 x.own, psV x.oth x.z]
def heldX (x : Ex) (W : World) : Prop := PS x.oth x.z W
abbrev XS (l : List Ex) (x : Option Addr × Nat) : World → Prop := Rows (RR encX heldX) 4 l x.1 x.2
abbrev xsV (l : List Ex) (x : Option Addr × Nat) : Value := .slice x.1 l.length x.2
/-- Exposures of a size that is looked at. -/
structure XW (xs : List Ex) : Prop where
  w : ∀ x ∈ xs, ExW x
  l : ∀ x ∈ xs, x.oth.length ≤ 1000
  n : xs.length ≤ 1000
/-- Points that count. -/
def cnt1 (x : Ex) (p : Int) : Int := if (totX x).1 = 0 then 0 else p
def cntL (xs : List Ex) (ps : List Int) : List Int := (xs.zip ps).map (fun q => cnt1 q.1 q.2)
theorem cntL_len {xs : List Ex} {ps : List Int} (h : ps.length = xs.length) : (cntL xs ps).length = xs.length := by unfold cntL; rw [List.length_map, List.length_zip]; omega
theorem cntL_snoc {xs : List Ex} {ps : List Int} {i : Nat} {x : Ex} {p : Int} (hx : xs[i]? = some x) (hp : ps[i]? = some p) : cntL (xs.take (i + 1)) (ps.take (i + 1)) = cntL (xs.take i) (ps.take i) ++ [cnt1 x p] := by
  have h1 : i < xs.length := (List.getElem?_eq_some_iff.1 hx).1
  have h2 : i < ps.length := (List.getElem?_eq_some_iff.1 hp).1
  unfold cntL
  rw [take_snoc hx, take_snoc hp, List.zip_append (by rw [List.length_take, List.length_take]; omega), List.map_append]
  rfl
theorem cntL_u {xs : List Ex} {ps : List Int} (hp : ∀ p ∈ ps, U64 p) : ∀ c ∈ cntL xs ps, U64 c := fun c hc => by
  obtain ⟨q, hq, rfl⟩ := List.mem_map.1 hc
  unfold cnt1
  split
  · exact ⟨by omega, by omega⟩
  · exact hp _ (List.of_mem_zip hq).2
def totOk (xs : List Ex) : Bool := xs.all (fun x => decide ((totX x).2 = 0))
theorem tot_err (x : Ex) : (totX x).2 = 0 ∨ (totX x).2 = 3 := by unfold totX sumM; split <;> simp
theorem counted_ct (xs : List Ex) (x : Option Addr × Nat) (ps : List Int) (y : Option Addr × Nat) (hX : XW xs) (hp : ∀ p ∈ ps, U64 p) (hl : ps.length = xs.length) :
    Ct Tryz.prog 19 #[xsV xs x, sl ps y] (fun W => XS xs x W ∧ U1 ps y W) (fun z : Option Addr × Nat => .tuple #[if totOk xs = true then sl (cntL xs ps) z else .slice none 0 0, .int .i64 (if totOk xs = true then (sumM ps).2 else 3)]) Tt (fun z W => totOk xs = true → U1 (cntL xs ps) z W) := by
  obtain ⟨A, c⟩ := x
  obtain ⟨B, e⟩ := y
  have hn := hX.n
  refine Ct.start Tryz.func19 rfl rfl (slots_of rfl slots2) (fun D w0 => Pw.facts (G' := [XS xs (A, c), U1 ps (B, e)]) (fun w h => allCons (fact0 h).1 (allCons (fact0 h).2 allNil)) ?_)
  repeat (first | refine Pw.runs ?_ | refine Pw.list (Pw.box rfl rfl rfl rfl (fun _ => ?_)) | refine Pw.list (Pw.alloc rfl rfl rfl rfl rfl (fun _ => ?_)))
  refine Pw.loopJ (σ := Nat × Gr) (fun t => t.1 ≤ xs.length ∧ totOk (xs.take t.1) = true ∧ gOk t.2 ((cntL (xs.take t.1) (ps.take t.1)).map (Value.int .u64)) t.1 1) (fun t => ⟨[(1, sl ps (B, e)), (6, gv t.2 t.1), (14, .slice A xs.length c), (15, .int .i64 xs.length), (16, .int .i64 t.1)], gL1 t.2 ((cntL (xs.take t.1) (ps.take t.1)).map (Value.int .u64)) 22, [XS xs (A, c), U1 ps (B, e)]⟩) (fun t => xs.length - t.1) (0, none) ⟨Nat.zero_le _, rfl, rfl, rfl⟩ (Pw.enter ⟨rfl, rfl, rfl, rfl, rfl, trivial⟩ (fun w h => h)) ?_
  rintro ⟨i, q⟩ ⟨hi, ht, hq⟩
  dsimp only at hi ht hq ⊢
  repeat (first | refine Pw.runs ?_ | refine Pw.list (Pw.box rfl rfl rfl rfl (fun _ => ?_)) | refine Pw.list (Pw.alloc rfl rfl rfl rfl rfl (fun _ => ?_)))
  refine Pw.condD rfl (fun c3 => ?_) (fun c3 => ?_)
  · have hi0 : (0 : Int) ≤ (i : Int) := Int.natCast_nonneg i
    have c4 : (i : Int) < ((ps.length : Nat) : Int) := by omega
    obtain ⟨x, hx, hxm⟩ := get_at (show i < xs.length by omega)
    obtain ⟨p, hpi, hpm⟩ := get_at (show i < ps.length by omega)
    have hsn := cntL_snoc hx hpi
    have htt : totOk (xs.take (i + 1)) = (totOk (xs.take i) && decide ((totX x).2 = 0)) := by unfold totOk; rw [take_snoc hx, List.all_append]; simp
    rw [ht, Bool.true_and] at htt
    refine Pw.use (p := B.isSome = true) (fun w h => (fact1 h).has hi0 c4) (fun hA => ?_)
    obtain ⟨bd, rfl⟩ := Option.isSome_iff_exists.1 hA
    repeat (first | refine Pw.runs ?_ | refine Pw.list (Pw.box rfl rfl rfl rfl (fun _ => ?_)) | refine Pw.list (Pw.alloc rfl rfl rfl rfl rfl (fun _ => ?_)))
    refine Pw.list (Pw.index rfl rfl rfl rfl hi0 c3 (fun w h => (fact0 h).has hi0 c3) rfl rfl ?_)
    rintro ad rfl
    refine Pw.list (Pw.loadR x rfl inferInstance rfl (by rw [Int.toNat_natCast]; exact hx) (by kernel_rfl) rfl rfl ?_)
    refine Pw.re (d := 20) (v' := exV x) rfl rfl ?_
    refine Pw.list (Pw.alloc rfl rfl rfl rfl rfl (fun g8 => ?_))
    repeat (first | refine Pw.runs ?_ | refine Pw.list (Pw.box rfl rfl rfl rfl (fun _ => ?_)) | refine Pw.list (Pw.alloc rfl rfl rfl rfl rfl (fun _ => ?_)))
    refine freeHead ?_
    refine Pw.re (d := 22) (v' := exV x) rfl rfl ?_
    refine Pw.list (Pw.call (pTotal_ct x (hX.w x hxm) (by have := hX.l x hxm; omega)) rfl rfl rfl (by kernel_rfl) rfl rfl (fun w h => (hv w h : heldX x w)) ?_)
    intro _ _
    repeat (first | refine Pw.runs ?_ | refine Pw.list (Pw.box rfl rfl rfl rfl (fun _ => ?_)) | refine Pw.list (Pw.alloc rfl rfl rfl rfl rfl (fun _ => ?_)))
    rcases tot_err x with he | he
    · rw [he] at htt ⊢
      repeat (first | refine Pw.runs ?_ | refine Pw.list (Pw.box rfl rfl rfl rfl (fun _ => ?_)) | refine Pw.list (Pw.alloc rfl rfl rfl rfl rfl (fun _ => ?_)))
      refine Pw.list (Pw.indexS rfl rfl rfl rfl hi0 c4 rfl rfl ?_)
      refine Pw.list (Pw.load1 rfl rfl (fun w hs => (hv w hs.all : U1 ps (some bd, e) w).cell hi0 c4) rfl rfl ?_)
      rw [get_rd hpi]
      repeat (first | refine Pw.runs ?_ | refine Pw.list (Pw.box rfl rfl rfl rfl (fun _ => ?_)) | refine Pw.list (Pw.alloc rfl rfl rfl rfl rfl (fun _ => ?_)))
      refine Pw.joinF (σ := Unit) (fun _ => True) (fun _ => ⟨[(1, sl ps (some bd, e)), (6, gv q i), (11, .int .u64 (cnt1 x p)), (14, .slice (some ad) xs.length c), (15, .int .i64 xs.length), (16, .int .i64 i)], gL1 q ((cntL (xs.take i) (ps.take i)).map (Value.int .u64)) 22, [XS xs (some ad, c), U1 ps (some bd, e)]⟩) ?_ ?_
      · refine Pw.condD rfl (fun c5 => ?_) (fun c5 => ?_)
        · repeat (first | refine Pw.runs ?_ | refine Pw.list (Pw.box rfl rfl rfl rfl (fun _ => ?_)) | refine Pw.list (Pw.alloc rfl rfl rfl rfl rfl (fun _ => ?_)))
          exact Pw.arrive () trivial ⟨rfl, rfl, by show some _ = some _; unfold cnt1; rw [if_pos c5], rfl, rfl, rfl, trivial⟩ rfl (fun w h => allCons (hv w h) (allCons (hv w h) allNil))
        · repeat (first | refine Pw.runs ?_ | refine Pw.list (Pw.box rfl rfl rfl rfl (fun _ => ?_)) | refine Pw.list (Pw.alloc rfl rfl rfl rfl rfl (fun _ => ?_)))
          exact Pw.arrive () trivial ⟨rfl, rfl, by show some _ = some _; unfold cnt1; rw [if_neg c5], rfl, rfl, rfl, trivial⟩ rfl (fun w h => allCons (hv w h) (allCons (hv w h) allNil))
      intro _ _
      dsimp only
      repeat (first | refine Pw.runs ?_ | refine Pw.list (Pw.box rfl rfl rfl rfl (fun _ => ?_)) | refine Pw.list (Pw.alloc rfl rfl rfl rfl rfl (fun _ => ?_)))
      refine Pw.list (Pw.lit1 rfl rfl rfl rfl rfl rfl rfl rfl rfl (fun g2 => ?_))
      refine freeHead ?_
      refine Pw.list (Pw.push (s := q) (news := [.int .u64 (cnt1 x p)]) rfl rfl rfl rfl rfl rfl rfl hq rfl (fun u hu => by rw [List.mem_singleton.1 hu]; rfl) (fun w hs j u hu => by
        have h1 : w.heap[g2]? = some (row [.int .u64 (cnt1 x p)] 22) := fact0 hs.all
        rw [add_none, cell_of_blk h1]
        simpa using hu) (by omega) (by simp only [maxLen]; omega) (by show (i + 1) * 8 ≤ _; omega) rfl rfl (fun q' hq' => ?_))
      have e4 : (cntL (xs.take i) (ps.take i)).map (Value.int .u64) ++ [.int .u64 (cnt1 x p)] = (cntL (xs.take (i + 1)) (ps.take (i + 1))).map (Value.int .u64) := by rw [hsn]; simp
      rw [e4] at hq' ⊢
      repeat (first | refine Pw.runs ?_ | refine Pw.list (Pw.box rfl rfl rfl rfl (fun _ => ?_)) | refine Pw.list (Pw.alloc rfl rfl rfl rfl rfl (fun _ => ?_)))
      refine Pw.re (d := 16) (v' := .int .i64 ((i + 1 : Nat) : Int)) rfl (congrArg (Value.int .i64) (i64s (n := 100000) (by omega) (by omega))) ?_
      exact Pw.again (i + 1, q') ⟨by show i + 1 ≤ xs.length; omega, by rw [htt]; rfl, hq'⟩ (by show xs.length - (i + 1) < xs.length - i; omega) ⟨rfl, rfl, rfl, rfl, rfl, trivial⟩ rfl (fun w h => allCons (hv w h) (allCons (hv w h) allNil))
    · rw [he] at htt ⊢
      have hno : totOk xs = false := by
        unfold totOk
        rw [List.all_eq_false]
        exact ⟨x, hxm, by rw [he]; decide⟩
      repeat (first | refine Pw.runs ?_ | refine Pw.list (Pw.box rfl rfl rfl rfl (fun _ => ?_)) | refine Pw.list (Pw.alloc rfl rfl rfl rfl rfl (fun _ => ?_)))
      rw [hno]
      exact Pw.ret_ (x := (none, 0)) (.tmp rfl (.tmp rfl .nil)) rfl trivial (fun w h hh => by cases hh)
  · obtain rfl : i = xs.length := by omega
    rw [List.take_length] at ht
    have e5 : cntL (xs.take xs.length) (ps.take xs.length) = cntL xs ps := by rw [List.take_length, ← hl, List.take_length]
    have hcl := cntL_len hl
    rw [e5] at hq ⊢
    rw [ht]
    refine Pw.freeG hq (fun A' c' ee hc => ?_)
    rw [ee]
    repeat (first | refine Pw.runs ?_ | refine Pw.list (Pw.box rfl rfl rfl rfl (fun _ => ?_)) | refine Pw.list (Pw.alloc rfl rfl rfl rfl rfl (fun _ => ?_)))
    refine Pw.list (Pw.call (mSum_ct ps (B, e) hp) rfl rfl rfl (by kernel_rfl) rfl rfl (fun w h => (hv w h)) ?_)
    intro _ _
    repeat (first | refine Pw.runs ?_ | refine Pw.list (Pw.box rfl rfl rfl rfl (fun _ => ?_)) | refine Pw.list (Pw.alloc rfl rfl rfl rfl rfl (fun _ => ?_)))
    exact Pw.ret_ (x := (A', c')) (.tmp rfl (.tmp rfl .nil)) (by show Value.tuple #[.slice A' xs.length c', _] = .tuple #[.slice A' (cntL xs ps).length c', _]; rw [hcl]; rfl) trivial (fun w h _ => ints_of_cells (by rw [hcl]; exact hc) (by rw [hcl]; simp only [maxLen]; omega) (allTail h |> fact0))
end Go.Proofs.Wk
/- Exposures: plain facts of pages. -/
namespace Go.Proofs.Wk
open Go.Sort Go.RowKit
set_option linter.unusedVariables false
set_option linter.unusedSimpArgs false
theorem srt_perm (l : List Pt) : (srt l).Perm l := List.mergeSort_perm ..
theorem stk_append (a b : List Pt) : stk (a ++ b) = stk a ++ stk b := by unfold stk; rw [List.map_append]
theorem pages_len {x : Ex} {k : Nat} (hk : 0 < k) : (pagesS x k).length = max 1 (nCh k x.oth.length) := by
  unfold pagesS
  rw [List.length_cons, chunks_len, List.length_drop, srt_len]
  unfold nCh
  rcases Nat.lt_or_ge k x.oth.length with h | h
  · rw [show x.oth.length + k - 1 = (x.oth.length - k + k - 1) + k by omega, Nat.add_div_right _ hk]; generalize (x.oth.length - k + k - 1) / k = q; omega
  · rw [Nat.sub_eq_zero_of_le h, Nat.div_eq_of_lt (by omega)]
    have : (x.oth.length + k - 1) / k < 2 := (Nat.div_lt_iff_lt_mul hk).2 (by omega)
    omega
end Go.Proofs.Wk
/- Rewards: New walked. -/
namespace Go.Proofs.Wk
open Go.RowKit
set_option maxRecDepth 100000
set_option maxHeartbeats 8000000
attribute [local irreducible] Pw OpG
set_option linter.unusedVariables false
set_option linter.unusedSimpArgs false
structure Ent where
  x : Ex
  pg : List Pg
  zp : Option Addr × Nat
  bu : List Int
  zb : Option Addr × Nat
  go : Nat
  gm : Nat
  gb : Nat
abbrev entV (e : Ent) : List Value := [.int .u64 e.x.com, .slice e.zp.1 e.pg.length e.zp.2, sl e.bu e.zb, .pointer (some ⟨e.gm, 0, none⟩)]
def entF (e : Ent) (W : World) : Prop := W.heap[e.go]? = some (row (entV e) 67) ∧ PGS e.pg e.zp W ∧ U1 e.bu e.zb W ∧ mkF e.gm e.gb e.pg.length W
abbrev rwL (st : List (Ent × List Int)) : List Blk := st.map (fun s => mkB s.1.gb s.2)
abbrev mP (ps : List (Nat × Ex)) : List (Int × Value) := ps.map (fun p => (p.2.id, .pointer (some ⟨p.1, 0, none⟩)))
abbrev eP (es : List Ent) : List (Nat × Ex) := es.map (fun e => (e.go, e.x))
def AllEnt (st : List (Ent × List Int)) (W : World) : Prop := ∀ s ∈ st, entF s.1 W
abbrev rwF (gr ga : Nat) (left : Int) (st : List (Ent × List Int)) (W : World) : Prop := W.heap[gr]? = some (row [.map (some ga), .int .u64 left] 61) ∧ W.heap[ga]? = some (mapO (mP (eP (st.map Prod.fst)))) ∧ AllEnt st W
/-! ### The plain answer -/
def bud1 (k : Nat) (share : Int) (x : Ex) : List Int × Int := spF share ((pagesS x k).map (fun p => (sumM (stk p)).1))
def shL (a : Int) (xs : List Ex) (ps : List Int) : List Int := (spF a (cntL xs ps)).1
def lefts (k : Nat) (a : Int) (xs : List Ex) (ps : List Int) : List Int := (xs.zip (shL a xs ps)).map (fun q => (bud1 k q.2 q.1).2)
def leftTo (k : Nat) (a : Int) (xs : List Ex) (ps : List Int) (i : Nat) : Int := (spF a (cntL xs ps)).2 + lsum ((lefts k a xs ps).take i)
def okX (xs : List Ex) : Bool := xs.all formX && decide ((xs.map Ex.id).Nodup)
def newErr (xs : List Ex) (ps : List Int) (size : Int) : Int := if size < 1 ∨ size > 32 ∨ ps.length ≠ xs.length ∨ okX xs = false then 1 else if totOk xs = true then (sumM ps).2 else 3
structure Rw where
  gr : Nat
  ga : Nat
  st : List (Ent × List Int)
/-- An entry, «as» it is begun. -/
structure EntB (k : Nat) (x : Ex) (share : Int) (s : Ent × List Int) : Prop where
  ex : s.1.x = x
  pg : s.1.pg.map Prod.fst = pagesS x k
  bu : s.1.bu = (bud1 k share x).1
  b : s.2 = List.replicate ((s.1.pg.length + 7) / 8) 0
def NewOk (k : Nat) (a : Int) (xs : List Ex) (ps : List Int) (i : Nat) (st : List (Ent × List Int)) : Prop := st.length = i ∧ ∀ (j : Nat) (s : Ent × List Int), st[j]? = some s → ∃ x sh, xs[j]? = some x ∧ (shL a xs ps)[j]? = some sh ∧ EntB k x sh s
theorem spF_sum {a : Int} {l : List Int} (ha : U64 a) (hl : ∀ x ∈ l, U64 x) : lsum (spF a l).1 + (spF a l).2 = a ∧ (∀ x ∈ (spF a l).1, U64 x ∧ x ≤ a) ∧ 0 ≤ (spF a l).2 ∧ (spF a l).2 ≤ a := by
  have h0 : ∀ s ∈ l, 0 ≤ s := fun s hs => (hl s hs).1
  unfold spF
  split
  next h =>
    have h1 := spl_le ha.1 h0 h.1 (spL a l).length
    rw [List.take_length] at h1
    refine ⟨by show lsum (spL a l) + (a - lsum (spL a l)) = a; omega, fun x hx => ?_, by show 0 ≤ a - lsum (spL a l); omega, by show a - lsum (spL a l) ≤ a; omega⟩
    unfold spL at hx
    obtain ⟨s, hs, rfl⟩ := List.mem_map.1 hx
    have h2 := spl_at ha.1 h0 h.1 hs
    have := ha.2
    exact ⟨⟨h2.2.1, by omega⟩, h2.2.2⟩
  next h =>
    have hz : ∀ l : List Int, lsum (l.map (fun _ => (0 : Int))) = 0 := by
      intro l; induction l with
      | nil => rfl
      | cons _ _ ih => simp only [List.map_cons, lsum, ih]; rfl
    refine ⟨by rw [hz]; omega, fun x hx => ?_, ha.1, Int.le_refl _⟩
    obtain ⟨_, _, rfl⟩ := List.mem_map.1 hx
    have := ha.1
    exact ⟨⟨by omega, by omega⟩, by omega⟩
theorem stk_u {x : Ex} (hx : ExW x) {k : Nat} : ∀ p ∈ pagesS x k, ∀ n ∈ stk p, U64 n := by
  intro p hp n hn
  obtain ⟨q, hq, rfl⟩ := List.mem_map.1 hn
  have hs : ∀ q ∈ srt x.oth, U64 q.2 := fun q hq => hx.oth q ((List.mergeSort_perm _ _).mem_iff.1 hq)
  unfold pagesS at hp
  rcases List.mem_cons.1 hp with rfl | hp
  · rcases List.mem_cons.1 hq with rfl | hq
    · exact hx.own
    · exact hs q (List.mem_of_mem_take hq)
  · unfold chunks at hp
    obtain ⟨i, _, rfl⟩ := List.mem_map.1 hp
    exact hs q (List.mem_of_mem_drop (List.mem_of_mem_drop (List.mem_of_mem_take hq)))
theorem sumM_u (l : List Int) (h : ∀ n ∈ l, U64 n) : U64 (sumM l).1 := by
  unfold sumM
  split
  · exact ⟨lsum_nonneg h, by assumption⟩
  · exact ⟨by decide, by decide⟩
theorem lefts_ok {k : Nat} {a : Int} {xs : List Ex} {ps : List Int} (ha : U64 a) (hX : XW xs) (hp : ∀ p ∈ ps, U64 p) (hl : ps.length = xs.length) (i : Nat) : 0 ≤ leftTo k a xs ps i ∧ leftTo k a xs ps i ≤ a ∧ (∀ x ∈ lefts k a xs ps, U64 x) := by
  obtain ⟨s1, s2, s3, s4⟩ := spF_sum ha (cntL_u (xs := xs) hp)
  have hsl : (shL a xs ps).length = xs.length := by unfold shL; rw [spF_len, cntL_len hl]
  have key : ∀ (xs : List Ex) (sh : List Int), (∀ x ∈ xs, ExW x) → (∀ s ∈ sh, U64 s ∧ s ≤ a) → (∀ y ∈ (xs.zip sh).map (fun q : Ex × Int => (bud1 k q.2 q.1).2), U64 y) ∧ (xs.length ≤ sh.length → ∀ j, 0 ≤ lsum (((xs.zip sh).map (fun q => (bud1 k q.2 q.1).2)).take j) ∧ lsum (((xs.zip sh).map (fun q => (bud1 k q.2 q.1).2)).take j) ≤ lsum sh) := by
    intro xs
    induction xs with
    | nil =>
      intro sh _ hs
      refine ⟨fun y hy => (by simp at hy), fun _ j => ?_⟩
      have := lsum_nonneg (fun n hn => (hs n hn).1)
      simp only [List.zip_nil_left, List.map_nil, List.take_nil, lsum]
      omega
    | cons x xs ih =>
      intro sh hx hs
      cases sh with
      | nil => exact ⟨fun y hy => (by simp at hy), fun h => (by simp at h)⟩
      | cons s sh =>
        obtain ⟨i1, i2⟩ := ih sh (fun y hy => hx y (List.mem_cons_of_mem _ hy)) (fun y hy => hs y (List.mem_cons_of_mem _ hy))
        obtain ⟨hs1, hs2⟩ := hs s (List.mem_cons_self ..)
        have hb := spF_sum hs1 (l := (pagesS x k).map (fun p => (sumM (stk p)).1)) (fun y hy => by
          obtain ⟨p, hp, rfl⟩ := List.mem_map.1 hy
          exact sumM_u _ (stk_u (hx x (List.mem_cons_self ..)) p hp))
        have hb1 : 0 ≤ (bud1 k s x).2 ∧ (bud1 k s x).2 ≤ s := hb.2.2
        refine ⟨fun y hy => ?_, fun hle j => ?_⟩
        · rw [List.zip_cons_cons, List.map_cons] at hy
          rcases List.mem_cons.1 hy with rfl | hy
          · have := hs1.2; exact ⟨hb1.1, by show (bud1 k s x).2 ≤ _; omega⟩
          · exact i1 y hy
        · rw [List.zip_cons_cons, List.map_cons]
          cases j with
          | zero =>
            have := lsum_nonneg (fun n hn => (hs n hn).1)
            simp only [List.take_zero, lsum] at this ⊢; omega
          | succ j =>
            have := i2 (by simp at hle; omega) j
            rw [List.take_succ_cons]
            simp only [lsum]
            show 0 ≤ (bud1 k s x).2 + _ ∧ (bud1 k s x).2 + _ ≤ _
            omega
  obtain ⟨k1, k2⟩ := key xs (shL a xs ps) hX.w s2
  have k3 := k2 (by omega) i
  refine ⟨?_, ?_, k1⟩
  · have : 0 ≤ lsum ((lefts k a xs ps).take i) := k3.1
    unfold leftTo; omega
  · have h5 : lsum ((lefts k a xs ps).take i) ≤ lsum (shL a xs ps) := k3.2
    have h6 : lsum (shL a xs ps) + (spF a (cntL xs ps)).2 = a := s1
    unfold leftTo; omega
theorem left_snoc {k : Nat} {a : Int} {xs : List Ex} {ps : List Int} {i : Nat} {x : Ex} {sh : Int} (hx : xs[i]? = some x) (hs : (shL a xs ps)[i]? = some sh) : leftTo k a xs ps (i + 1) = leftTo k a xs ps i + (bud1 k sh x).2 := by
  unfold leftTo
  have : (lefts k a xs ps)[i]? = some (bud1 k sh x).2 := by
    unfold lefts
    rw [List.getElem?_map, (List.getElem?_zip_eq_some (z := (x, sh))).2 ⟨hx, hs⟩]; rfl
  rw [take_snoc this, lsum_snoc]; omega
/-! ### Blocks -/
abbrev blkP (p : Nat × Ex) : Blk := ⟨p.1, row [.int .u64 p.2.com, .slice none 0 0, .slice none 0 0, .pointer none] 67⟩
theorem permP {a b c : Blk} {X : List Blk} : (a :: b :: c :: X).Perm (b :: c :: (X ++ [a])) := by
  have h := (List.perm_append_comm (l₁ := b :: c :: X) (l₂ := [a])).symm
  simpa using h
theorem mval_P {ps : List (Nat × Ex)} {k : Int} : (k ∉ ps.map (fun p => p.2.id) → mval k (mP ps) (.pointer none) = .pointer none) ∧ (∀ (hn : (ps.map (fun p => p.2.id)).Nodup) (i : Nat) (p : Nat × Ex), ps[i]? = some p → p.2.id = k → mval k (mP ps) (.pointer none) = .pointer (some ⟨p.1, 0, none⟩)) := by
  have key : ∀ (ps : List (Nat × Ex)) (j : Nat), (k ∉ ps.map (fun p => p.2.id) → lkp k (mP ps) j = none) ∧ (∀ (hn : (ps.map (fun p => p.2.id)).Nodup) (i : Nat) (p : Nat × Ex), ps[i]? = some p → p.2.id = k → lkp k (mP ps) j = some (j + i, .pointer (some ⟨p.1, 0, none⟩))) := by
    intro ps
    induction ps with
    | nil => exact fun j => ⟨fun _ => rfl, fun _ i p h => by cases h⟩
    | cons q ps ih =>
      intro j
      obtain ⟨h1, h2⟩ := ih (j + 1)
      constructor
      · intro h
        show (if k = q.2.id then _ else lkp k (mP ps) (j + 1)) = none
        rw [if_neg (fun e => h (by rw [e]; exact List.mem_cons_self ..)), h1 (fun hm => h (List.mem_cons_of_mem _ hm))]
      · intro hn i p hp he
        show (if k = q.2.id then some (j, _) else lkp k (mP ps) (j + 1)) = _
        obtain ⟨n1, n2⟩ := List.nodup_cons.1 hn
        cases i with
        | zero =>
          have : q = p := Option.some.inj hp
          subst this
          rw [if_pos he.symm]; rfl
        | succ i =>
          have hp : ps[i]? = some p := hp
          rw [if_neg, h2 n2 i p hp he]
          · show some (j + 1 + i, _) = some (j + (i + 1), _); rw [Nat.add_right_comm, Nat.add_assoc]
          · intro e
            exact n1 (by show q.2.id ∈ _; rw [← e, ← he]; exact List.mem_map_of_mem (f := fun p : Nat × Ex => p.2.id) (List.mem_of_getElem? hp))
  obtain ⟨h1, h2⟩ := key ps 0
  exact ⟨fun h => by unfold mval; rw [h1 h], fun hn i p hp he => by unfold mval; rw [h2 hn i p hp he]⟩
theorem okX_no {xs : List Ex} {i : Nat} {x : Ex} (hx : xs[i]? = some x) (h : formX x = false ∨ x.id ∈ (xs.take i).map Ex.id) : okX xs = false := by
  have hm := List.mem_of_getElem? hx
  unfold okX
  rcases h with h | h
  · have : xs.all formX = false := List.all_eq_false.2 ⟨x, hm, by rw [h]; decide⟩
    rw [this]; rfl
  · have : ¬ (xs.map Ex.id).Nodup := fun hn => by
      obtain ⟨u, hu, e⟩ := List.mem_map.1 h
      obtain ⟨j, hj⟩ := List.getElem?_of_mem hu
      have hji : j < i := by
        have := (List.getElem?_eq_some_iff.1 hj).1
        rw [List.length_take] at this; omega
      rw [List.getElem?_take, if_pos hji] at hj
      have h1 : (xs.map Ex.id)[j]? = some u.id := by rw [List.getElem?_map, hj]; rfl
      have h2 : (xs.map Ex.id)[i]? = some x.id := by rw [List.getElem?_map, hx]; rfl
      obtain ⟨b1, b2⟩ := List.getElem?_eq_some_iff.1 h1
      obtain ⟨b3, b4⟩ := List.getElem?_eq_some_iff.1 h2
      have := List.pairwise_iff_getElem.1 hn j i b1 b3 hji
      rw [b2, b4] at this
      exact this e
    rw [decide_eq_false this]; simp
end Go.Proofs.Wk
/- The law PagesSum walked. -/
namespace Go.Proofs.Wk
open Go.RowKit
set_option maxRecDepth 100000
set_option maxHeartbeats 2000000
attribute [local irreducible] Pw OpG
set_option linter.unusedVariables false
set_option linter.unusedSimpArgs false
section
variable {P : Program} {w0 : World} {M O : Nat → Prop} {n : Nat} {K : Slots} {L : List Blk} {G : List (World → Prop)} {Q : Exit → Act → World → Prop} {ops : Array Oper} {rest : List Oper} {w : World} {a : Act} {X : Act → World → Prop}
  {d : Nat} {ty : TypeId} {pos : String} {af : Array Edge} {gd : Option (Nat × Bool)} {N : Act → World → Prop} {S : World → Prop} {α : Type} {D : Nat → Prop} {fuel : Nat} {l : Array Bool}
/-- An element of one cell. -/
theorem Pw.loadC {x : Operand} {ad : Addr} {u : TypeId} {sz sz' : Nat} {i : Int} {enc : α → List Value} {held : α → World → Prop} {l : List α} {c : Nat} (y : α) {v : Value} (hx : ev K x = some (.pointer (some (ad.add (i.toNat * sz))))) (hr : RowsAt G (some ad) α enc held sz' l c) (hsz : sz = sz') (hi : l[i.toNat]? = some y) (hv : (enc y)[0]? = some v) (hu : plainB P u = true)
    (hw : wantB K ops gd = some true) (hn : Nat.blt d n = true) (h : Pw w0 M O n ((d, v) :: K) L (held y :: G) N) : Pw w0 M O n K L G (OpG P ops ⟨some d, .load u x, ty, pos, af, gd⟩ N Q) := by
  subst hsz
  exact Pw.more (fun w k => ((hr.h w k).at hi).2.1) (Pw.load1 hx hu (fun w hs => ((hr.h w (allTail hs.all)).at hi).2.2 0 v hv) hw hn h)
end
end Go.Proofs.Wk
/- Rewards: New walked. -/
namespace Go.Proofs.Wk
open Go.RowKit
set_option maxRecDepth 100000
set_option maxHeartbeats 8000000
attribute [local irreducible] Pw OpG
set_option linter.unusedVariables false
set_option linter.unusedSimpArgs false
theorem okX_snoc {xs : List Ex} {i : Nat} {x : Ex} (hx : xs[i]? = some x) (h : okX (xs.take i) = true) (hf : formX x = true) (hd : x.id ∉ (xs.take i).map Ex.id) : okX (xs.take (i + 1)) = true := by
  unfold okX at h ⊢
  rw [Bool.and_eq_true, decide_eq_true_eq] at h ⊢
  rw [take_snoc hx, List.all_append, List.map_append, List.nodup_append]
  refine ⟨by rw [h.1]; simp [hf], h.2, by simp, fun a ha b hb => ?_⟩
  rw [List.mem_singleton.1 hb]
  exact fun e => hd (by rw [← e]; exact ha)
theorem permG {g a : Blk} {X : List Blk} : (g :: a :: X).Perm (a :: g :: X) := .swap ..
theorem permD {m g o : Blk} {X Y : List Blk} : (m :: g :: o :: (X ++ Y)).Perm (o :: g :: (X ++ (Y ++ [m]))) := by
  have h1 : (m :: g :: o :: (X ++ Y)).Perm (g :: o :: (X ++ Y) ++ [m]) := by
    have := List.perm_append_comm (l₁ := [m]) (l₂ := g :: o :: (X ++ Y)); simpa using this
  have h2 : (g :: o :: (X ++ Y) ++ [m]).Perm (o :: g :: (X ++ (Y ++ [m]))) := by
    have := List.Perm.swap o g (X ++ (Y ++ [m])); simpa [List.append_assoc] using this
  exact h1.trans h2
abbrev tots (x : Ex) (k : Nat) : List Int := (pagesS x k).map (fun p => (sumM (stk p)).1)
theorem poNew_ct (a : Int) (xs : List Ex) (xz : Option Addr × Nat) (ps : List Int) (y : Option Addr × Nat) (size : Int) (ha : U64 a) (hX : XW xs) (hp : ∀ p ∈ ps, U64 p) (hs : size ≤ 9223372036854775807) :
    CtB Tryz.prog 6 #[.int .u64 a, xsV xs xz, sl ps y, .int .i64 size] [] (fun W => XS xs xz W ∧ U1 ps y W)
      (fun R : Option Rw => match R with | none => .tuple #[.pointer none, .int .i64 (newErr xs ps size)] | some R => .tuple #[.pointer (some ⟨R.gr, 0, none⟩), .int .i64 0])
      (fun R => match R with | none => newErr xs ps size ≠ 0 | some R => newErr xs ps size = 0 ∧ NewOk size.toNat a xs ps xs.length R.st)
      (fun R => match R with | none => [] | some R => rwL R.st)
      (fun R W => match R with | none => True | some R => rwF R.gr R.ga (leftTo size.toNat a xs ps xs.length) R.st W) := by
  obtain ⟨A, c⟩ := xz
  have hn := hX.n
  refine CtB.start Tryz.func6 rfl rfl (slots_of rfl slots4) (fun D w0 => Pw.facts (G' := [XS xs (A, c), U1 ps y]) (fun w h => allCons (fact0 h).1 (allCons (fact0 h).2 allNil)) ?_)
  repeat (first | refine Pw.runs ?_ | refine Pw.list (Pw.box rfl rfl rfl rfl (fun _ => ?_)) | refine Pw.list (Pw.alloc rfl rfl rfl rfl rfl (fun _ => ?_)))
  refine Pw.split 26 rfl (fun c1 => ?_) (fun c1 => ?_)
  · have e : newErr xs ps size = 1 := if_pos (.inl c1)
    repeat (first | refine Pw.runs ?_ | refine Pw.list (Pw.box rfl rfl rfl rfl (fun _ => ?_)) | refine Pw.list (Pw.alloc rfl rfl rfl rfl rfl (fun _ => ?_)))
    exact Pw.retB (x := none) (List.nil_sublist _) (.tmp rfl (.tmp rfl .nil)) (by rw [e]; rfl) (by show newErr xs ps size ≠ 0; rw [e]; decide) (fun w h => trivial)
  repeat (first | refine Pw.runs ?_ | refine Pw.list (Pw.box rfl rfl rfl rfl (fun _ => ?_)) | refine Pw.list (Pw.alloc rfl rfl rfl rfl rfl (fun _ => ?_)))
  refine Pw.split 30 rfl (fun c2 => ?_) (fun c2 => ?_)
  · have e : newErr xs ps size = 1 := if_pos (.inr (.inl c2))
    repeat (first | refine Pw.runs ?_ | refine Pw.list (Pw.box rfl rfl rfl rfl (fun _ => ?_)) | refine Pw.list (Pw.alloc rfl rfl rfl rfl rfl (fun _ => ?_)))
    exact Pw.retB (x := none) (List.nil_sublist _) (.tmp rfl (.tmp rfl .nil)) (by rw [e]; rfl) (by show newErr xs ps size ≠ 0; rw [e]; decide) (fun w h => trivial)
  repeat (first | refine Pw.runs ?_ | refine Pw.list (Pw.box rfl rfl rfl rfl (fun _ => ?_)) | refine Pw.list (Pw.alloc rfl rfl rfl rfl rfl (fun _ => ?_)))
  refine Pw.condD rfl (fun c3 => ?_) (fun c3 => ?_)
  · have e : newErr xs ps size = 1 := if_pos (.inr (.inr (.inl (by omega))))
    repeat (first | refine Pw.runs ?_ | refine Pw.list (Pw.box rfl rfl rfl rfl (fun _ => ?_)) | refine Pw.list (Pw.alloc rfl rfl rfl rfl rfl (fun _ => ?_)))
    exact Pw.retB (x := none) (List.nil_sublist _) (.tmp rfl (.tmp rfl .nil)) (by rw [e]; rfl) (by show newErr xs ps size ≠ 0; rw [e]; decide) (fun w h => trivial)
  have hpl : ps.length = xs.length := by omega
  have hk0 : 0 < size.toNat := by omega
  repeat (first | refine Pw.runs ?_ | refine Pw.list (Pw.box rfl rfl rfl rfl (fun _ => ?_)) | refine Pw.list (Pw.alloc rfl rfl rfl rfl rfl (fun _ => ?_)))
  refine Pw.list (Pw.makeMap rfl rfl (fun ga => ?_))
  repeat (first | refine Pw.runs ?_ | refine Pw.list (Pw.box rfl rfl rfl rfl (fun _ => ?_)) | refine Pw.list (Pw.alloc rfl rfl rfl rfl rfl (fun _ => ?_)))
  rename_i gr
  refine Pw.loopJ (σ := Nat × List (Nat × Ex)) (fun t => t.1 ≤ xs.length ∧ t.2.map Prod.snd = xs.take t.1 ∧ okX (xs.take t.1) = true) (fun t => ⟨[(0, .int .u64 a), (1, xsV xs (A, c)), (2, sl ps y), (3, .int .i64 size), (10, .pointer (some ⟨gr, 0, none⟩)), (40, .slice A xs.length c), (41, .int .i64 xs.length), (42, .int .i64 t.1)], ⟨gr, row [.map (some ga), .int .u64 0] 61⟩ :: ⟨ga, mapO (mP t.2)⟩ :: t.2.map blkP, [XS xs (A, c), U1 ps y]⟩) (fun t => xs.length - t.1) (0, []) ⟨Nat.zero_le _, rfl, rfl⟩ (Pw.enter ⟨rfl, rfl, rfl, rfl, rfl, rfl, rfl, rfl, trivial⟩ (fun w h => h)) ?_
  rintro ⟨i, qs⟩ ⟨hi, hqs, hok⟩
  dsimp only at hi hqs hok ⊢
  have hid : qs.map (fun p => p.2.id) = (xs.take i).map Ex.id := by rw [← hqs, List.map_map]; rfl
  have hnd : (qs.map (fun p => p.2.id)).Nodup := by
    rw [hid]
    unfold okX at hok
    rw [Bool.and_eq_true, decide_eq_true_eq] at hok
    exact hok.2
  repeat (first | refine Pw.runs ?_ | refine Pw.list (Pw.box rfl rfl rfl rfl (fun _ => ?_)) | refine Pw.list (Pw.alloc rfl rfl rfl rfl rfl (fun _ => ?_)))
  refine Pw.condD rfl (fun c4 => ?_) (fun c4 => ?_)
  · have hi0 : (0 : Int) ≤ (i : Int) := Int.natCast_nonneg i
    obtain ⟨x, hx, hxm⟩ := get_at (show i < xs.length by omega)
    repeat (first | refine Pw.runs ?_ | refine Pw.list (Pw.box rfl rfl rfl rfl (fun _ => ?_)) | refine Pw.list (Pw.alloc rfl rfl rfl rfl rfl (fun _ => ?_)))
    refine Pw.list (Pw.index rfl rfl rfl rfl hi0 c4 (fun w h => (fact0 h).has hi0 c4) rfl rfl ?_)
    rintro ad rfl
    refine Pw.list (Pw.loadR x rfl inferInstance rfl (by rw [Int.toNat_natCast]; exact hx) (by kernel_rfl) rfl rfl ?_)
    refine Pw.re (d := 45) (v' := exV x) rfl rfl ?_
    refine Pw.list (Pw.alloc rfl rfl rfl rfl rfl (fun g12 => ?_))
    repeat (first | refine Pw.runs ?_ | refine Pw.list (Pw.box rfl rfl rfl rfl (fun _ => ?_)) | refine Pw.list (Pw.alloc rfl rfl rfl rfl rfl (fun _ => ?_)))
    refine freeHead ?_
    by_cases hd : x.id ∈ (xs.take i).map Ex.id
    · have e : newErr xs ps size = 1 := if_pos (.inr (.inr (.inr (okX_no hx (.inr hd)))))
      rw [← hid] at hd
      obtain ⟨p, hpm, hpe⟩ := List.mem_map.1 hd
      obtain ⟨j, hj⟩ := List.getElem?_of_mem hpm
      refine Pw.drawnH (g := gr) inferInstance mixed rfl rfl ?_
      refine Pw.takeP 0 (nb 13 1) rfl rfl rfl rfl (by kernel_rfl) np so ?_
      refine Pw.takeP 1 (nb 13 3) rfl rfl rfl rfl (by kernel_rfl) np so ?_
      refine Pw.takeP 2 (nb 13 7) rfl rfl rfl rfl (by kernel_rfl) np so ?_
      refine Pw.takeF 3 (nb 13 15) rfl rfl inferInstance rfl rfl rfl (by kernel_rfl) np so ?_
      refine Pw.takeP 4 (nb 13 31) rfl rfl rfl rfl (by kernel_rfl) np so ?_
      refine Pw.takeF 5 (nb 13 63) rfl rfl inferInstance rfl rfl rfl (by kernel_rfl) np so ?_
      refine Pw.one 6 (nb 13 127) rfl (by kernel_rfl) ?_
      refine Pw.lookupF (m := mP qs) rfl rfl rfl rfl rfl rfl (fun w hs => hs.own ⟨ga, mapO (mP qs)⟩ (.tail _ (.head _))) rfl rfl ?_
      refine Pw.re (d := 52) (v' := .pointer (some ⟨p.1, 0, none⟩)) rfl (mval_P.2 hnd j p hj hpe) ?_
      refine Pw.held so ?_
      refine Pw.takeP 7 (nb 13 255) rfl rfl rfl rfl (by kernel_rfl) np so ?_
      refine Pw.takeP 8 (nb 13 511) rfl rfl rfl rfl (by kernel_rfl) np so ?_
      refine Pw.re (d := 54) (v' := .bool true) rfl rfl ?_
      refine Pw.takeO 9 (nb 13 1023) rfl rfl rfl (by kernel_rfl) np so ?_
      refine Pw.takeO 10 (nb 13 2047) rfl rfl rfl (by kernel_rfl) np so ?_
      refine Pw.takeO 11 (nb 13 4095) rfl rfl rfl (by kernel_rfl) np so ?_
      refine Pw.takeP 12 (nb 13 8191) rfl rfl rfl rfl (by kernel_rfl) np so ?_
      refine Pw.done (by kernel_rfl) ?_
      skip
      repeat (first | refine Pw.runs ?_ | refine Pw.list (Pw.box rfl rfl rfl rfl (fun _ => ?_)) | refine Pw.list (Pw.alloc rfl rfl rfl rfl rfl (fun _ => ?_)))
      exact Pw.retB (x := none) (List.nil_sublist _) (.tmp rfl (.tmp rfl .nil)) (by rw [e]; rfl) (by show newErr xs ps size ≠ 0; rw [e]; decide) (fun w h => trivial)
    have hd2 : x.id ∉ qs.map (fun p => p.2.id) := by rw [hid]; exact hd
    refine Pw.drawnH (g := gr) inferInstance mixed rfl rfl ?_
    refine Pw.takeP 0 (nb 13 1) rfl rfl rfl rfl (by kernel_rfl) np so ?_
    refine Pw.takeP 1 (nb 13 3) rfl rfl rfl rfl (by kernel_rfl) np so ?_
    refine Pw.takeP 2 (nb 13 7) rfl rfl rfl rfl (by kernel_rfl) np so ?_
    refine Pw.takeF 3 (nb 13 15) rfl rfl inferInstance rfl rfl rfl (by kernel_rfl) np so ?_
    refine Pw.takeP 4 (nb 13 31) rfl rfl rfl rfl (by kernel_rfl) np so ?_
    refine Pw.takeF 5 (nb 13 63) rfl rfl inferInstance rfl rfl rfl (by kernel_rfl) np so ?_
    refine Pw.one 6 (nb 13 127) rfl (by kernel_rfl) ?_
    refine Pw.lookupF (m := mP qs) rfl rfl rfl rfl rfl rfl (fun w hs => hs.own ⟨ga, mapO (mP qs)⟩ (.tail _ (.head _))) rfl rfl ?_
    refine Pw.re (d := 52) (v' := .pointer none) rfl (mval_P.1 hd2) ?_
    refine Pw.held so ?_
    refine Pw.takeP 7 (nb 13 255) rfl rfl rfl rfl (by kernel_rfl) np so ?_
    refine Pw.takeP 8 (nb 13 511) rfl rfl rfl rfl (by kernel_rfl) np so ?_
    refine Pw.re (d := 54) (v' := .bool false) rfl rfl ?_
    refine Pw.takeF 9 (nb 13 1023) rfl rfl inferInstance rfl rfl rfl (by kernel_rfl) np so ?_
    refine Pw.one 10 (nb 13 2047) rfl (by kernel_rfl) ?_
    refine Pw.re (d := 55) (v' := exV x) rfl rfl ?_
    refine Pw.call (pFormed_ct x) rfl rfl rfl (by kernel_rfl) rfl rfl (fun w h => (hv w h : heldX x w)) ?_
    intro _ _
    refine Pw.held so ?_
    refine Pw.takeP 11 (nb 13 4095) rfl rfl rfl rfl (by kernel_rfl) np so ?_
    refine Pw.takeP 12 (nb 13 8191) rfl rfl rfl rfl (by kernel_rfl) np so ?_
    refine Pw.done (by kernel_rfl) ?_
    skip
    repeat (first | refine Pw.runs ?_ | refine Pw.list (Pw.box rfl rfl rfl rfl (fun _ => ?_)) | refine Pw.list (Pw.alloc rfl rfl rfl rfl rfl (fun _ => ?_)))
    cases hf : formX x
    · have e : newErr xs ps size = 1 := if_pos (.inr (.inr (.inr (okX_no hx (.inl hf)))))
      repeat (first | refine Pw.runs ?_ | refine Pw.list (Pw.box rfl rfl rfl rfl (fun _ => ?_)) | refine Pw.list (Pw.alloc rfl rfl rfl rfl rfl (fun _ => ?_)))
      exact Pw.retB (x := none) (List.nil_sublist _) (.tmp rfl (.tmp rfl .nil)) (by rw [e]; rfl) (by show newErr xs ps size ≠ 0; rw [e]; decide) (fun w h => trivial)
    repeat (first | refine Pw.runs ?_ | refine Pw.list (Pw.box rfl rfl rfl rfl (fun _ => ?_)) | refine Pw.list (Pw.alloc rfl rfl rfl rfl rfl (fun _ => ?_)))
    refine Pw.drawnH (g := gr) inferInstance mixed rfl rfl ?_
    refine Pw.takeP 0 (nb 11 1) rfl rfl rfl rfl (by kernel_rfl) np so ?_
    refine Pw.takeP 1 (nb 11 3) rfl rfl rfl rfl (by kernel_rfl) np so ?_
    refine Pw.takeP 2 (nb 11 7) rfl rfl rfl rfl (by kernel_rfl) np so ?_
    refine Pw.takeF 3 (nb 11 15) rfl rfl inferInstance rfl rfl rfl (by kernel_rfl) np so ?_
    refine Pw.takeP 4 (nb 11 31) rfl rfl rfl rfl (by kernel_rfl) np so ?_
    refine Pw.takeF 5 (nb 11 63) rfl rfl inferInstance rfl rfl rfl (by kernel_rfl) np so ?_
    refine Pw.takeP 6 (nb 11 127) rfl rfl rfl rfl (by kernel_rfl) np so ?_
    refine Pw.takeF 7 (nb 11 255) rfl rfl inferInstance rfl rfl rfl (by kernel_rfl) np so ?_
    refine Pw.takeBuild 8 (nb 11 511) rfl rfl rfl rfl rfl (by kernel_rfl) np so ?_
    refine Pw.one 9 (nb 11 1023) rfl (by kernel_rfl) ?_
    refine Pw.box rfl rfl rfl rfl (fun go => ?_)
    refine Pw.held so ?_
    refine Pw.one 10 (nb 11 2047) rfl (by kernel_rfl) ?_
    refine Pw.mapNew (m := mP qs) (k := x.id) rfl rfl rfl rfl rfl (fun p hp => by
      obtain ⟨q, hq, rfl⟩ := List.mem_map.1 hp
      exact fun e => hd2 (by rw [← e]; exact List.mem_map_of_mem (f := fun p : Nat × Ex => p.2.id) hq)) (.tail (.tail .head)) rfl ?_
    refine Pw.held so ?_
    refine Pw.done (by kernel_rfl) ?_
    skip
    refine Pw.perm permP ?_
    repeat (first | refine Pw.runs ?_ | refine Pw.list (Pw.box rfl rfl rfl rfl (fun _ => ?_)) | refine Pw.list (Pw.alloc rfl rfl rfl rfl rfl (fun _ => ?_)))
    refine Pw.re (d := 42) (v' := .int .i64 ((i + 1 : Nat) : Int)) rfl (congrArg (Value.int .i64) (i64s (n := 100000) (by omega) (by omega))) ?_
    exact Pw.again (i + 1, qs ++ [(go, x)]) ⟨by show i + 1 ≤ xs.length; omega, by rw [List.map_append, hqs, take_snoc hx]; rfl, okX_snoc hx hok hf hd⟩ (by show xs.length - (i + 1) < xs.length - i; omega) ⟨rfl, rfl, rfl, rfl, rfl, rfl, rfl, rfl, trivial⟩ (by show _ = _ :: _ :: List.map blkP (qs ++ [(go, x)]); rw [List.map_append]; show _ :: (⟨ga, mapO (mP qs ++ _)⟩ : Blk) :: _ = _ :: (⟨ga, mapO (List.map _ (qs ++ [(go, x)]))⟩ : Blk) :: _; rw [List.map_append]; rfl) (fun w h => allCons (hv w h) (allCons (hv w h) allNil))
  obtain rfl : i = xs.length := by omega
  rw [List.take_length] at hqs hok hid
  have hql : qs.length = xs.length := by have := congrArg List.length hqs; rwa [List.length_map] at this
  have nerr : newErr xs ps size = if totOk xs = true then (sumM ps).2 else 3 := by
    unfold newErr
    rw [if_neg]
    rintro (h | h | h | h)
    · exact c1 h
    · exact c2 h
    · exact h hpl
    · rw [hok] at h; cases h
  repeat (first | refine Pw.runs ?_ | refine Pw.list (Pw.box rfl rfl rfl rfl (fun _ => ?_)) | refine Pw.list (Pw.alloc rfl rfl rfl rfl rfl (fun _ => ?_)))
  refine Pw.list (Pw.call (counted_ct xs (A, c) ps y hX hp hpl) rfl rfl rfl (by kernel_rfl) rfl rfl (fun w h => ⟨(hv w h), (hv w h)⟩) ?_)
  intro z1 _
  cases htot : totOk xs
  · have e : newErr xs ps size = 3 := by rw [nerr, htot]; rfl
    repeat (first | refine Pw.runs ?_ | refine Pw.list (Pw.box rfl rfl rfl rfl (fun _ => ?_)) | refine Pw.list (Pw.alloc rfl rfl rfl rfl rfl (fun _ => ?_)))
    exact Pw.retB (x := none) (List.nil_sublist _) (.tmp rfl (.tmp rfl .nil)) (by rw [e]; rfl) (by show newErr xs ps size ≠ 0; rw [e]; decide) (fun w h => trivial)
  rw [htot] at nerr
  rw [if_pos rfl] at nerr ⊢
  rw [if_pos rfl]
  rcases (sumM_err (l := ps)) with hse | hse
  · rw [hse] at nerr ⊢
    repeat (first | refine Pw.runs ?_ | refine Pw.list (Pw.box rfl rfl rfl rfl (fun _ => ?_)) | refine Pw.list (Pw.alloc rfl rfl rfl rfl rfl (fun _ => ?_)))
    refine Pw.list (Pw.call (psplit_ct a (cntL xs ps) z1 ha (cntL_u hp) (by rw [cntL_len hpl]; omega)) rfl rfl rfl (by kernel_rfl) rfl rfl (fun w h => (fact0 h) rfl) ?_)
    intro z2 _
    have hsl : (shL a xs ps).length = xs.length := by unfold shL; rw [spF_len, cntL_len hpl]
    have hL0 := lefts_ok (k := size.toNat) ha hX hp hpl 0
    have hLe : (spF a (cntL xs ps)).2 = leftTo size.toNat a xs ps 0 := by unfold leftTo; rw [List.take_zero]; simp [lsum]
    obtain ⟨_, s2, _, _⟩ := spF_sum ha (cntL_u (xs := xs) hp)
    rw [hLe]
    rw [show (spF a (cntL xs ps)).1 = shL a xs ps from rfl]
    repeat (first | refine Pw.runs ?_ | refine Pw.list (Pw.box rfl rfl rfl rfl (fun _ => ?_)) | refine Pw.list (Pw.alloc rfl rfl rfl rfl rfl (fun _ => ?_)))
    refine Pw.perm permG (freeHead ?_)
    refine Pw.loopJ (σ := Nat × List (Ent × List Int)) (fun t => t.1 ≤ xs.length ∧ NewOk size.toNat a xs ps t.1 t.2 ∧ eP (t.2.map Prod.fst) = qs.take t.1) (fun t => ⟨[(3, .int .i64 size), (10, .pointer (some ⟨gr, 0, none⟩)), (13, sl (shL a xs ps) z2), (88, .slice A xs.length c), (89, .int .i64 xs.length), (90, .int .i64 t.1)], ⟨gr, row [.map (some ga), .int .u64 (leftTo size.toNat a xs ps t.1)] 61⟩ :: ((qs.drop t.1).map blkP ++ rwL t.2), [XS xs (A, c), U1 (shL a xs ps) z2, AllEnt t.2, fun W => W.heap[ga]? = some (mapO (mP qs))]⟩) (fun t => xs.length - t.1) (0, []) ⟨Nat.zero_le _, ⟨rfl, fun j s h => (by cases h)⟩, rfl⟩ (by
      intro X h
      dsimp only at h
      refine Pw.enter ?_ ?_ X (Pw.eqL (by show (⟨gr, row [.map (some ga), .int .u64 (leftTo size.toNat a xs ps 0)] 61⟩ : Blk) :: List.map blkP qs = _ :: (List.map blkP (List.drop 0 qs) ++ []); rw [List.drop_zero, List.append_nil]) h)
      · exact ⟨rfl, rfl, rfl, rfl, rfl, rfl, trivial⟩
      · exact fun w h => allCons (hv w h) (allCons (hv w h) (allCons (fun s hs => by cases hs) (allCons (fx h) allNil)))) ?_
    rintro ⟨i, dn⟩ ⟨hi, hdn, hgo⟩
    dsimp only at hi hdn hgo ⊢
    repeat (first | refine Pw.runs ?_ | refine Pw.list (Pw.box rfl rfl rfl rfl (fun _ => ?_)) | refine Pw.list (Pw.alloc rfl rfl rfl rfl rfl (fun _ => ?_)))
    refine Pw.condD rfl (fun c5 => ?_) (fun c5 => ?_)
    · have hi0 : (0 : Int) ≤ (i : Int) := Int.natCast_nonneg i
      obtain ⟨x, hx, hxm⟩ := get_at (show i < xs.length by omega)
      obtain ⟨⟨go, x'⟩, hq, hqm⟩ := get_at (show i < qs.length by omega)
      obtain rfl : x' = x := by
        have h1 : (qs.map Prod.snd)[i]? = xs[i]? := by rw [hqs]
        rw [List.getElem?_map, hq, hx] at h1
        exact Option.some.inj h1
      obtain ⟨sh, hsh, hshm⟩ := get_at (show i < (shL a xs ps).length by omega)
      obtain ⟨hsu, hsa⟩ := s2 sh hshm
      have hxf : formX x' = true := by
        unfold okX at hok
        rw [Bool.and_eq_true, List.all_eq_true] at hok
        exact hok.1 x' hxm
      have hxt : (totX x').2 = 0 := by
        unfold totOk at htot
        rw [List.all_eq_true] at htot
        exact of_decide_eq_true (htot x' hxm)
      have hxW := hX.w x' hxm
      have hpr : pagesR x' size = (pagesS x' size.toNat, 0) := by
        unfold pagesR
        rw [if_neg (fun h => h.elim c1 (fun h => by rw [hxf] at h; cases h)), if_neg (by rw [hxt]; exact fun h => h rfl)]
      have hpc := pPages_ct x' hxW (hX.l x' hxm) size hs
      have hpgl : (pagesS x' size.toNat).length ≤ 4096 := by
        unfold pagesS
        rw [List.length_cons, chunks_len, List.length_drop]
        have h1 := nCh_le (n := (srt x'.oth).length - size.toNat) hk0
        have h2 : (srt x'.oth).length = x'.oth.length := (List.mergeSort_perm _ _).length_eq
        have := hX.l x' hxm
        omega
      rw [hpr] at hpc
      have hdrop : qs.drop i = (go, x') :: qs.drop (i + 1) := by
        rw [List.drop_eq_getElem_cons (by omega)]
        rw [List.getElem?_eq_getElem (by omega)] at hq
        rw [Option.some.inj hq]
      rw [hdrop]
      refine Pw.eqL (L' := ⟨gr, row [.map (some ga), .int .u64 (leftTo size.toNat a xs ps i)] 61⟩ :: ⟨go, row [.int .u64 x'.com, .slice none 0 0, .slice none 0 0, .pointer none] 67⟩ :: ((qs.drop (i + 1)).map blkP ++ rwL dn)) rfl ?_
      repeat (first | refine Pw.runs ?_ | refine Pw.list (Pw.box rfl rfl rfl rfl (fun _ => ?_)) | refine Pw.list (Pw.alloc rfl rfl rfl rfl rfl (fun _ => ?_)))
      refine Pw.list (Pw.index rfl rfl rfl rfl hi0 c5 (fun w h => (fact0 h).has hi0 c5) rfl rfl ?_)
      rintro ad rfl
      refine Pw.list (Pw.loadR x' rfl inferInstance rfl (by rw [Int.toNat_natCast]; exact hx) (by kernel_rfl) rfl rfl ?_)
      refine Pw.re (d := 94) (v' := exV x') rfl rfl ?_
      refine Pw.list (Pw.alloc rfl rfl rfl rfl rfl (fun g16 => ?_))
      repeat (first | refine Pw.runs ?_ | refine Pw.list (Pw.box rfl rfl rfl rfl (fun _ => ?_)) | refine Pw.list (Pw.alloc rfl rfl rfl rfl rfl (fun _ => ?_)))
      refine freeHead ?_
      refine Pw.drawnH (g := gr) inferInstance mixed rfl rfl ?_
      refine Pw.takeP 0 (nb 8 1) rfl rfl rfl rfl (by kernel_rfl) np so ?_
      refine Pw.takeP 1 (nb 8 3) rfl rfl rfl rfl (by kernel_rfl) np so ?_
      refine Pw.takeP 2 (nb 8 7) rfl rfl rfl rfl (by kernel_rfl) np so ?_
      refine Pw.takeF 3 (nb 8 15) rfl rfl inferInstance rfl rfl rfl (by kernel_rfl) np so ?_
      refine Pw.takeP 4 (nb 8 31) rfl rfl rfl rfl (by kernel_rfl) np so ?_
      refine Pw.takeF 5 (nb 8 63) rfl rfl inferInstance rfl rfl rfl (by kernel_rfl) np so ?_
      refine Pw.one 6 (nb 8 127) rfl (by kernel_rfl) ?_
      refine Pw.lookupF (m := mP qs) rfl rfl rfl rfl rfl rfl (fun w hs => by have h := hs.all; exact (fx h)) rfl rfl ?_
      refine Pw.re (d := 101) (v' := .pointer (some ⟨go, 0, none⟩)) rfl (mval_P.2 hnd i (go, x') hq rfl) ?_
      refine Pw.held so ?_
      refine Pw.takeP 7 (nb 8 255) rfl rfl rfl rfl (by kernel_rfl) np so ?_
      refine Pw.done (by kernel_rfl) ?_
      skip
      repeat (first | refine Pw.runs ?_ | refine Pw.list (Pw.box rfl rfl rfl rfl (fun _ => ?_)) | refine Pw.list (Pw.alloc rfl rfl rfl rfl rfl (fun _ => ?_)))
      refine Pw.re (d := 104) (v' := exV x') rfl rfl ?_
      refine Pw.list (Pw.call hpc rfl rfl rfl (by kernel_rfl) rfl rfl (fun w h => (hv w h : heldX x' w)) ?_)
      rintro ⟨pg, ⟨Ap, cp⟩⟩ hpg
      dsimp only at hpg ⊢
      have hpl2 : (pagesS x' size.toNat).length = pg.length := by rw [← hpg, List.length_map]
      rw [hpl2] at hpgl ⊢
      repeat (first | refine Pw.runs ?_ | refine Pw.list (Pw.box rfl rfl rfl rfl (fun _ => ?_)) | refine Pw.list (Pw.alloc rfl rfl rfl rfl rfl (fun _ => ?_)))
      refine Pw.loopJ (σ := Nat × Gr) (fun t => t.1 ≤ pg.length ∧ gOk t.2 (((tots x' size.toNat).take t.1).map (Value.int .u64)) t.1 1) (fun t => ⟨[(3, .int .i64 size), (10, .pointer (some ⟨gr, 0, none⟩)), (13, sl (shL a xs ps) z2), (15, .int .i64 i), (17, .pointer (some ⟨go, 0, none⟩)), (18, gv t.2 t.1), (88, .slice (some ad) xs.length c), (89, .int .i64 xs.length), (90, .int .i64 i), (114, .slice Ap pg.length cp), (115, .int .i64 pg.length), (116, .int .i64 t.1)], gL t.2 (((tots x' size.toNat).take t.1).map (Value.int .u64)) 22 ++ (⟨gr, row [.map (some ga), .int .u64 (leftTo size.toNat a xs ps i)] 61⟩ :: ⟨go, row [.int .u64 x'.com, .slice Ap pg.length cp, .slice none 0 0, .pointer none] 67⟩ :: ((qs.drop (i + 1)).map blkP ++ rwL dn)), [XS xs (some ad, c), U1 (shL a xs ps) z2, AllEnt dn, fun W => W.heap[ga]? = some (mapO (mP qs)), PGS pg (Ap, cp)]⟩) (fun t => pg.length - t.1) (0, none) ⟨Nat.zero_le _, rfl, rfl⟩ (Pw.enter ⟨rfl, rfl, rfl, rfl, rfl, rfl, rfl, rfl, rfl, rfl, rfl, rfl, trivial⟩ (fun w h => allCons (hv w h) (allCons (hv w h) (allCons (hv w h) (allCons (fx h) (allCons (hv w h) allNil)))))) ?_
      rintro ⟨j, q⟩ ⟨hj, hqq⟩
      dsimp only at hj hqq ⊢
      have htl : (tots x' size.toNat).length = pg.length := by show (List.map _ _).length = _; rw [List.length_map, hpl2]
      repeat (first | refine Pw.runs ?_ | refine Pw.list (Pw.box rfl rfl rfl rfl (fun _ => ?_)) | refine Pw.list (Pw.alloc rfl rfl rfl rfl rfl (fun _ => ?_)))
      refine Pw.condD rfl (fun c6 => ?_) (fun c6 => ?_)
      · have hj0 : (0 : Int) ≤ (j : Int) := Int.natCast_nonneg j
        obtain ⟨⟨pp, Az, cz⟩, hpj, hpjm⟩ := get_at (show j < pg.length by omega)
        have hpS : (pagesS x' size.toNat)[j]? = some pp := by rw [← hpg, List.getElem?_map, hpj]; rfl
        have hpm : pp ∈ pagesS x' size.toNat := List.mem_of_getElem? hpS
        have hpu := stk_u hxW (k := size.toNat) pp hpm
        have hpn : pp.length ≤ 1001 := by
          have := hX.l x' hxm
          have h2 : (srt x'.oth).length = x'.oth.length := (List.mergeSort_perm _ _).length_eq
          unfold pagesS at hpm
          rcases List.mem_cons.1 hpm with rfl | hpm
          · rw [List.length_cons, List.length_take]; omega
          · unfold chunks at hpm
            obtain ⟨jj, _, rfl⟩ := List.mem_map.1 hpm
            unfold chunkAt
            rw [List.length_take, List.length_drop, List.length_drop]; omega
        have htj : (tots x' size.toNat)[j]? = some (sumM (stk pp)).1 := by show (List.map _ _)[j]? = _; rw [List.getElem?_map, hpS]; rfl
        repeat (first | refine Pw.runs ?_ | refine Pw.list (Pw.box rfl rfl rfl rfl (fun _ => ?_)) | refine Pw.list (Pw.alloc rfl rfl rfl rfl rfl (fun _ => ?_)))
        refine Pw.list (Pw.index rfl rfl rfl rfl hj0 c6 (fun w h => (hv w h : PGS pg (Ap, cp) w).has hj0 c6) rfl rfl ?_)
        rintro pd rfl
        refine Pw.list (Pw.loadC (pp, Az, cz) rfl inferInstance rfl (by rw [Int.toNat_natCast]; exact hpj) rfl rfl rfl rfl ?_)
        repeat (first | refine Pw.runs ?_ | refine Pw.list (Pw.box rfl rfl rfl rfl (fun _ => ?_)) | refine Pw.list (Pw.alloc rfl rfl rfl rfl rfl (fun _ => ?_)))
        refine Pw.list (Pw.callL (Stakes_ct pp (Az, cz) (by omega)) rfl rfl rfl (by kernel_rfl) rfl rfl (fun w h => ((hv w h : PGS pg (some pd, cp) w).at hpj).2.1) ?_)
        intro q1 hq1
        refine Pw.freeG hq1 (fun As cs' es hcs => ?_)
        refine Pw.re (d := 122) (v' := sl (stk pp) (As, cs')) rfl (by rw [es]; show Value.slice As _ cs' = .slice As (stk pp).length cs'; rw [stk_len]) ?_
        refine Pw.list (Pw.call (mSum_ct (stk pp) (As, cs') hpu) rfl rfl rfl (by kernel_rfl) rfl rfl (fun w h => ints_of_cells (by rw [stk_len]; exact hcs) (by rw [stk_len]; simp only [maxLen]; omega) (fact0 h)) ?_)
        intro _ _
        repeat (first | refine Pw.runs ?_ | refine Pw.list (Pw.box rfl rfl rfl rfl (fun _ => ?_)) | refine Pw.list (Pw.alloc rfl rfl rfl rfl rfl (fun _ => ?_)))
        refine Pw.list (Pw.lit1 rfl rfl rfl rfl rfl rfl rfl rfl rfl (fun g2 => ?_))
        refine freeHead ?_
        refine Pw.list (Pw.push (s := q) (news := [.int .u64 (sumM (stk pp)).1]) rfl rfl rfl rfl rfl rfl rfl hqq rfl (fun u hu => by rw [List.mem_singleton.1 hu]; rfl) (fun w hs j u hu => by
          have h1 : w.heap[g2]? = some (row [.int .u64 (sumM (stk pp)).1] 22) := fact0 hs.all
          rw [add_none, cell_of_blk h1]
          simpa using hu) (by omega) (by simp only [maxLen]; omega) (by show (j + 1) * 8 ≤ _; omega) rfl rfl (fun q' hq' => ?_))
        have e4 : ((tots x' size.toNat).take j).map (Value.int .u64) ++ [.int .u64 (sumM (stk pp)).1] = ((tots x' size.toNat).take (j + 1)).map (Value.int .u64) := by rw [take_snoc htj]; simp
        rw [e4] at hq' ⊢
        repeat (first | refine Pw.runs ?_ | refine Pw.list (Pw.box rfl rfl rfl rfl (fun _ => ?_)) | refine Pw.list (Pw.alloc rfl rfl rfl rfl rfl (fun _ => ?_)))
        refine Pw.re (d := 116) (v' := .int .i64 ((j + 1 : Nat) : Int)) rfl (congrArg (Value.int .i64) (i64s (n := 100000) (by omega) (by omega))) ?_
        exact Pw.again (j + 1, q') ⟨by show j + 1 ≤ pg.length; omega, hq'⟩ (by show pg.length - (j + 1) < pg.length - j; omega) ⟨rfl, rfl, rfl, rfl, rfl, rfl, rfl, rfl, rfl, rfl, rfl, rfl, trivial⟩ rfl (fun w h => allCons (hv w h) (allCons (hv w h) (allCons (hv w h) (allCons (fx h) (allCons (hv w h) allNil)))))
      · obtain rfl : j = pg.length := by omega
        rw [← htl, List.take_length] at hqq ⊢
        refine Pw.freeG hqq (fun At ct et hct => ?_)
        rw [et]
        have htu : ∀ n ∈ tots x' size.toNat, U64 n := fun n hn => by
          obtain ⟨p, hp, rfl⟩ := List.mem_map.1 hn
          exact sumM_u _ (stk_u hxW p hp)
        have hsi : (i : Int) < (((shL a xs ps).length : Nat) : Int) := by omega
        repeat (first | refine Pw.runs ?_ | refine Pw.list (Pw.box rfl rfl rfl rfl (fun _ => ?_)) | refine Pw.list (Pw.alloc rfl rfl rfl rfl rfl (fun _ => ?_)))
        refine Pw.list (Pw.index rfl rfl rfl rfl hi0 hsi (fun w h => (hv w h : U1 (shL a xs ps) z2 w).has hi0 hsi) rfl rfl ?_)
        intro sd hsd
        obtain ⟨zA, zc⟩ := z2
        dsimp only at hsd
        subst hsd
        refine Pw.list (Pw.load1 rfl rfl (fun w hs => (hv w hs.all : U1 (shL a xs ps) (some sd, zc) w).cell hi0 hsi) rfl rfl ?_)
        rw [get_rd hsh]
        repeat (first | refine Pw.runs ?_ | refine Pw.list (Pw.box rfl rfl rfl rfl (fun _ => ?_)) | refine Pw.list (Pw.alloc rfl rfl rfl rfl rfl (fun _ => ?_)))
        refine Pw.list (Pw.call (psplit_ct sh (tots x' size.toNat) (At, ct) hsu htu (by rw [htl]; omega)) rfl rfl rfl (by kernel_rfl) rfl rfl (fun w h => ints_of_cells hct (by rw [htl]; simp only [maxLen]; omega) (fact0 h)) ?_)
        intro zb _
        rw [show spF sh (tots x' size.toNat) = bud1 size.toNat sh x' from rfl, htl]
        have hbl : (bud1 size.toNat sh x').1.length = pg.length := by unfold bud1; rw [spF_len]; exact htl
        repeat (first | refine Pw.runs ?_ | refine Pw.list (Pw.box rfl rfl rfl rfl (fun _ => ?_)) | refine Pw.list (Pw.alloc rfl rfl rfl rfl rfl (fun _ => ?_)))
        refine Pw.list (Pw.callB (mkNew_ct pg.length hpgl) (List.nil_append _).symm rfl rfl rfl (by kernel_rfl) rfl rfl (fun w h => trivial) ?_)
        rintro ⟨gm, gb⟩ _
        dsimp only
        refine Pw.eqL (L' := mkB gb (List.replicate ((pg.length + 7) / 8) 0) :: ⟨gr, row [.map (some ga), .int .u64 (leftTo size.toNat a xs ps i)] 61⟩ :: ⟨go, row [.int .u64 x'.com, .slice Ap pg.length cp, sl (bud1 size.toNat sh x').1 zb, .pointer none] 67⟩ :: ((qs.drop (i + 1)).map blkP ++ rwL dn)) rfl ?_
        have hli := lefts_ok (k := size.toNat) ha hX hp hpl i
        have hlj := lefts_ok (k := size.toNat) ha hX hp hpl (i + 1)
        have hls := left_snoc (k := size.toNat) hx hsh
        have ha2 := ha.2
        repeat (first | refine Pw.runs ?_ | refine Pw.list (Pw.box rfl rfl rfl rfl (fun _ => ?_)) | refine Pw.list (Pw.alloc rfl rfl rfl rfl rfl (fun _ => ?_)))
        rw [wu (n := leftTo size.toNat a xs ps i + (bud1 size.toNat sh x').2) (by omega) (by omega), ← hls]
        refine Pw.perm permD (freeHead ?_)
        refine Pw.re (d := 90) (v' := .int .i64 ((i + 1 : Nat) : Int)) rfl (congrArg (Value.int .i64) (i64s (n := 100000) (by omega) (by omega))) ?_
        exact Pw.again (i + 1, dn ++ [(⟨x', pg, (Ap, cp), (bud1 size.toNat sh x').1, zb, go, gm, gb⟩, List.replicate ((pg.length + 7) / 8) 0)]) ⟨by show i + 1 ≤ xs.length; omega, ⟨by rw [List.length_append, hdn.1]; rfl, fun j s hj => by
          rcases Nat.lt_or_ge j dn.length with h | h
          · rw [List.getElem?_append_left h] at hj
            exact hdn.2 j s hj
          · rw [List.getElem?_append_right h] at hj
            cases hj0 : j - dn.length with
            | succ n => rw [hj0] at hj; cases hj
            | zero =>
              rw [hj0] at hj
              have hji : j = i := by have := hdn.1; omega
              rw [← Option.some.inj hj, hji]
              exact ⟨x', sh, hx, hsh, rfl, hpg, rfl, rfl⟩⟩, by rw [List.map_append]; show List.map _ (_ ++ _) = _; rw [List.map_append, take_snoc hq, ← hgo]; rfl⟩ (by show xs.length - (i + 1) < xs.length - i; omega) ⟨rfl, rfl, rfl, rfl, rfl, rfl, trivial⟩ (by show _ = _ :: (List.map blkP _ ++ List.map _ (dn ++ [_])); rw [List.map_append]; rfl) (fun w h => allCons (hv w h) (allCons (hv w h) (allCons (fun s hs => by
            rcases List.mem_append.1 hs with hs | hs
            · exact (hv w h : AllEnt dn w) s hs
            · rw [List.mem_singleton.1 hs]
              exact ⟨(fx h), (hv w h), (hv w h), (hv w h)⟩) (allCons (fx h) allNil))))
    · obtain rfl : i = xs.length := by omega
      rw [List.drop_of_length_le (by omega)]
      refine Pw.eqL (L' := ⟨gr, row [.map (some ga), .int .u64 (leftTo size.toNat a xs ps xs.length)] 61⟩ :: rwL dn) rfl ?_
      repeat (first | refine Pw.runs ?_ | refine Pw.list (Pw.box rfl rfl rfl rfl (fun _ => ?_)) | refine Pw.list (Pw.alloc rfl rfl rfl rfl rfl (fun _ => ?_)))
      refine freeHead ?_
      have hmp : mP (eP (dn.map Prod.fst)) = mP qs := by rw [hgo, List.take_of_length_le (by omega)]
      exact Pw.retB (x := some ⟨gr, ga, dn⟩) (List.Sublist.refl _) (.tmp rfl (.tmp rfl .nil)) rfl ⟨nerr, hdn⟩ (fun w h => ⟨(fx h), by rw [hmp]; exact (fx h), (hv w h)⟩)
  · rw [hse] at nerr ⊢
    repeat (first | refine Pw.runs ?_ | refine Pw.list (Pw.box rfl rfl rfl rfl (fun _ => ?_)) | refine Pw.list (Pw.alloc rfl rfl rfl rfl rfl (fun _ => ?_)))
    exact Pw.retB (x := none) (List.nil_sublist _) (.tmp rfl (.tmp rfl .nil)) (by rw [nerr]; rfl) (by show newErr xs ps size ≠ 0; rw [nerr]; decide) (fun w h => trivial)
end Go.Proofs.Wk
/- Rewards: find, Budget, Left, Paid walked. -/
namespace Go.Proofs.Wk
open Go.RowKit
set_option maxRecDepth 100000
set_option maxHeartbeats 8000000
attribute [local irreducible] Pw OpG
set_option linter.unusedVariables false
set_option linter.unusedSimpArgs false
abbrev Sr := List (Ent × List Int)
structure Wf (s : Ent × List Int) : Prop where
  l : s.2.length = (s.1.pg.length + 7) / 8
  r : ∀ x ∈ s.2, 0 ≤ x ∧ x ≤ 255
  n : s.1.pg.length ≤ 4096
  b : s.1.bu.length = s.1.pg.length
def paidB (s : Ent × List Int) (i : Nat) : Bool := bitB (rd s.2 ((i / 8 : Nat) : Int)) (i % 8)
def pdOf (s : Ent × List Int) : List Bool := (List.range s.1.pg.length).map (paidB s)
theorem pd_len (s : Ent × List Int) : (pdOf s).length = s.1.pg.length := by unfold pdOf; rw [List.length_map, List.length_range]
theorem pd_get {s : Ent × List Int} {i : Nat} (h : i < s.1.pg.length) : (pdOf s)[i]? = some (paidB s i) := by
  unfold pdOf
  rw [List.getElem?_map, List.getElem?_range h]; rfl
theorem Wf.mk_ (s : Ent × List Int) (h : Wf s) : MkOk (pdOf s) s.2 := by
  refine ⟨by rw [pd_len]; exact h.l, h.r, fun i p hp => ?_⟩
  have hi : i < s.1.pg.length := by rw [← pd_len s]; exact (List.getElem?_eq_some_iff.1 hp).1
  rw [pd_get hi] at hp
  exact Option.some.inj hp
def setB (s : Ent × List Int) (i : Nat) : Ent × List Int := (s.1, s.2.set (i / 8) (Go.bits .or .u8 (rd s.2 ((i / 8 : Nat) : Int)) (2 ^ (i % 8))))
theorem Wf.set {s : Ent × List Int} (h : Wf s) {i : Nat} (hi : i < s.1.pg.length) : Wf (setB s i) := by
  have h1 := mk_set h.mk_ (i := i) (by rw [pd_len]; exact hi)
  have hl := h1.l
  rw [List.length_set, List.length_set, pd_len] at hl
  exact ⟨by show (List.set _ _ _).length = _; rw [List.length_set]; exact hl, h1.r, h.n, h.b⟩
theorem paid_set {s : Ent × List Int} (h : Wf s) {i j : Nat} (hi : i < s.1.pg.length) (hj : j < s.1.pg.length) : paidB (setB s i) j = (paidB s j || decide (j = i)) := by
  have h1 := mk_set h.mk_ (i := i) (by rw [pd_len]; exact hi)
  by_cases e : i = j
  · subst e
    have h2 := h1.h i true (by rw [List.getElem?_set, if_pos rfl, if_pos (by rw [pd_len]; exact hi)])
    refine (show bitB (rd (setB s i).2 _) _ = true from h2).trans ?_
    simp
  · have h2 := h1.h j (paidB s j) (by rw [List.getElem?_set, if_neg e]; exact pd_get hj)
    refine (show bitB (rd (setB s i).2 _) _ = paidB s j from h2).trans ?_
    rw [decide_eq_false (fun h => e h.symm), Bool.or_false]
/-- Where a validator's entry stands; which page. -/
def ixE (st : Sr) (v : Int) : Option Nat := st.findIdx? (fun s => decide (s.1.x.id = v))
abbrev idsS (st : Sr) : List Int := st.map (fun s => s.1.x.id)
theorem ixE_some {st : Sr} {v : Int} {j : Nat} (h : ixE st v = some j) : ∃ s, st[j]? = some s ∧ s.1.x.id = v := by
  unfold ixE at h
  rw [List.findIdx?_eq_some_iff_getElem] at h
  obtain ⟨hj, hp, _⟩ := h
  exact ⟨st[j], List.getElem?_eq_getElem hj, of_decide_eq_true hp⟩
theorem ixE_none {st : Sr} {v : Int} (h : ixE st v = none) : v ∉ idsS st := by
  unfold ixE at h
  rw [List.findIdx?_eq_none_iff] at h
  intro hm
  obtain ⟨s, hs, e⟩ := List.mem_map.1 hm
  have := h s hs
  simp [e] at this
theorem ixE_at {st : Sr} {v : Int} {j : Nat} {s : Ent × List Int} (hn : (idsS st).Nodup) (hs : st[j]? = some s) (e : s.1.x.id = v) : ixE st v = some j := by
  cases h : ixE st v with
  | none => exact absurd (by rw [← e]; exact List.mem_map_of_mem (f := fun s : Ent × List Int => s.1.x.id) (List.mem_of_getElem? hs)) (ixE_none h)
  | some k =>
    obtain ⟨t, ht, e2⟩ := ixE_some h
    have h1 : (idsS st)[j]? = some v := by rw [List.getElem?_map, hs]; exact congrArg some e
    have h2 : (idsS st)[k]? = some v := by rw [List.getElem?_map, ht]; exact congrArg some e2
    obtain ⟨b1, b2⟩ := List.getElem?_eq_some_iff.1 h1
    obtain ⟨b3, b4⟩ := List.getElem?_eq_some_iff.1 h2
    rcases Nat.lt_trichotomy j k with hlt | rfl | hlt
    · have := List.pairwise_iff_getElem.1 hn j k b1 b3 hlt
      rw [b2, b4] at this; exact absurd rfl this
    · rfl
    · have := List.pairwise_iff_getElem.1 hn k j b3 b1 hlt
      rw [b2, b4] at this; exact absurd rfl this
/-- The entry of a page, if there is one. -/
def fnd (st : Sr) (v p : Int) : Option Nat := match ixE st v with
  | none => none
  | some j => match st[j]? with
    | none => none
    | some s => if 0 ≤ p ∧ p < (s.1.pg.length : Int) then some j else none
theorem fnd_some {st : Sr} {v p : Int} {j : Nat} (h : fnd st v p = some j) : ∃ s, st[j]? = some s ∧ s.1.x.id = v ∧ 0 ≤ p ∧ p < (s.1.pg.length : Int) := by
  unfold fnd at h
  cases h1 : ixE st v with
  | none => rw [h1] at h; cases h
  | some k =>
    rw [h1] at h
    obtain ⟨s, hs, e⟩ := ixE_some h1
    have h : (match st[k]? with | none => none | some s => if 0 ≤ p ∧ p < (s.1.pg.length : Int) then some k else none) = some j := h
    rw [hs] at h
    have h : (if 0 ≤ p ∧ p < (s.1.pg.length : Int) then some k else none) = some j := h
    split at h
    next hc => rw [← Option.some.inj h]; exact ⟨s, hs, e, hc⟩
    next => cases h
theorem fnd_at {st : Sr} {v p : Int} {j : Nat} {s : Ent × List Int} (hn : (idsS st).Nodup) (hs : st[j]? = some s) (e : s.1.x.id = v) (h0 : 0 ≤ p) (h1 : p < (s.1.pg.length : Int)) : fnd st v p = some j := by
  unfold fnd
  rw [ixE_at hn hs e]
  show (match st[j]? with | none => none | some s => if 0 ≤ p ∧ p < (s.1.pg.length : Int) then some j else none) = _
  rw [hs]
  exact if_pos ⟨h0, h1⟩
theorem fnd_no {st : Sr} {v p : Int} {j : Nat} {s : Ent × List Int} (hn : (idsS st).Nodup) (hs : st[j]? = some s) (e : s.1.x.id = v) (h : ¬ (0 ≤ p ∧ p < (s.1.pg.length : Int))) : fnd st v p = none := by
  unfold fnd
  rw [ixE_at hn hs e]
  show (match st[j]? with | none => none | some s => if 0 ≤ p ∧ p < (s.1.pg.length : Int) then some j else none) = _
  rw [hs]
  exact if_neg h
def goV (st : Sr) (o : Option Nat) : Value := match o.bind (fun j => st[j]?) with
  | some s => .pointer (some ⟨s.1.go, 0, none⟩)
  | none => .pointer none
theorem eP_ids (st : Sr) : (eP (st.map Prod.fst)).map (fun p => p.2.id) = idsS st := by
  show List.map _ (List.map _ (List.map _ st)) = _
  rw [List.map_map, List.map_map]; rfl
theorem eP_get {st : Sr} {j : Nat} {s : Ent × List Int} (hs : st[j]? = some s) : (eP (st.map Prod.fst))[j]? = some (s.1.go, s.1.x) := by
  show (List.map _ (List.map _ st))[j]? = _
  rw [List.getElem?_map, List.getElem?_map, hs]; rfl
abbrev rw2 (gr ga : Nat) (left : Int) (st : Sr) : List (World → Prop) := [fun W => W.heap[gr]? = some (row [.map (some ga), .int .u64 left] 61), fun W => W.heap[ga]? = some (mapO (mP (eP (st.map Prod.fst)))), AllEnt st]
theorem poFind_ct (gr ga : Nat) (left : Int) (st : Sr) (v p : Int) (hn : (idsS st).Nodup) : Ct Tryz.prog 32 #[.pointer (some ⟨gr, 0, none⟩), .int .i64 v, .int .i64 p] (rwF gr ga left st) (fun _ : Unit => goV st (fnd st v p)) Tt (fun _ _ => True) := by
  refine Ct.start Tryz.func32 rfl rfl (slots_of rfl slots3) (fun D w0 => Pw.facts (G' := rw2 gr ga left st) (fun w h => allCons (fact0 h).1 (allCons (fact0 h).2.1 (allCons (fact0 h).2.2 allNil))) ?_)
  repeat (first | refine Pw.runs ?_ | refine Pw.list (Pw.box rfl rfl rfl rfl (fun _ => ?_)) | refine Pw.list (Pw.alloc rfl rfl rfl rfl rfl (fun _ => ?_)))
  refine Pw.list (Pw.lookupF (m := mP (eP (st.map Prod.fst))) rfl rfl rfl rfl rfl rfl (fun w hs => fact1 hs.all) rfl rfl ?_)
  cases hix : ixE st v with
  | none =>
    have hno := ixE_none hix
    rw [← eP_ids] at hno
    refine Pw.re (d := 15) (v' := .pointer none) rfl (mval_P.1 hno) ?_
    repeat (first | refine Pw.runs ?_ | refine Pw.list (Pw.box rfl rfl rfl rfl (fun _ => ?_)) | refine Pw.list (Pw.alloc rfl rfl rfl rfl rfl (fun _ => ?_)))
    have e : fnd st v p = none := by unfold fnd; rw [hix]
    exact Pw.ret_ (x := ()) (.tmp rfl .nil) (by rw [e]; rfl) trivial (fun w h => trivial)
  | some j =>
    obtain ⟨s, hs, hid⟩ := ixE_some hix
    have hmv := mval_P.2 (by rw [eP_ids]; exact hn) j _ (eP_get hs) hid
    refine Pw.re (d := 15) (v' := .pointer (some ⟨s.1.go, 0, none⟩)) rfl hmv ?_
    repeat (first | refine Pw.runs ?_ | refine Pw.list (Pw.box rfl rfl rfl rfl (fun _ => ?_)) | refine Pw.list (Pw.alloc rfl rfl rfl rfl rfl (fun _ => ?_)))
    refine Pw.split 22 rfl (fun c1 => ?_) (fun c1 => ?_)
    · have e : fnd st v p = none := fnd_no hn hs hid (by omega)
      repeat (first | refine Pw.runs ?_ | refine Pw.list (Pw.box rfl rfl rfl rfl (fun _ => ?_)) | refine Pw.list (Pw.alloc rfl rfl rfl rfl rfl (fun _ => ?_)))
      exact Pw.ret_ (x := ()) (.tmp rfl .nil) (by rw [e]; rfl) trivial (fun w h => trivial)
    repeat (first | refine Pw.runs ?_ | refine Pw.list (Pw.box rfl rfl rfl rfl (fun _ => ?_)) | refine Pw.list (Pw.alloc rfl rfl rfl rfl rfl (fun _ => ?_)))
    refine Pw.list (Pw.lookupF (m := mP (eP (st.map Prod.fst))) rfl rfl rfl rfl rfl rfl (fun w hs => fact1 hs.all) rfl rfl ?_)
    refine Pw.re (d := 29) (v' := .pointer (some ⟨s.1.go, 0, none⟩)) rfl hmv ?_
    refine Pw.facts (G' := (fun W => W.heap[s.1.go]? = some (row (entV s.1) 67)) :: rw2 gr ga left st) (fun w h => allCons ((fact2 h) s (List.mem_of_getElem? hs)).1 h) ?_
    repeat (first | refine Pw.runs ?_ | refine Pw.list (Pw.box rfl rfl rfl rfl (fun _ => ?_)) | refine Pw.list (Pw.alloc rfl rfl rfl rfl rfl (fun _ => ?_)))
    refine Pw.condD rfl (fun c2 => ?_) (fun c2 => ?_)
    · have e : fnd st v p = none := fnd_no hn hs hid (by omega)
      repeat (first | refine Pw.runs ?_ | refine Pw.list (Pw.box rfl rfl rfl rfl (fun _ => ?_)) | refine Pw.list (Pw.alloc rfl rfl rfl rfl rfl (fun _ => ?_)))
      exact Pw.ret_ (x := ()) (.tmp rfl .nil) (by rw [e]; rfl) trivial (fun w h => trivial)
    · have e : fnd st v p = some j := fnd_at hn hs hid (by omega) (by omega)
      repeat (first | refine Pw.runs ?_ | refine Pw.list (Pw.box rfl rfl rfl rfl (fun _ => ?_)) | refine Pw.list (Pw.alloc rfl rfl rfl rfl rfl (fun _ => ?_)))
      refine Pw.list (Pw.lookupF (m := mP (eP (st.map Prod.fst))) rfl rfl rfl rfl rfl rfl (fun w hs => fact2 hs.all) rfl rfl ?_)
      refine Pw.re (d := 41) (v' := .pointer (some ⟨s.1.go, 0, none⟩)) rfl hmv ?_
      repeat (first | refine Pw.runs ?_ | refine Pw.list (Pw.box rfl rfl rfl rfl (fun _ => ?_)) | refine Pw.list (Pw.alloc rfl rfl rfl rfl rfl (fun _ => ?_)))
      exact Pw.ret_ (x := ()) (.tmp rfl .nil) (by rw [e]; show _ = goV st (some j); unfold goV; rw [Option.bind_some, hs]; rfl) trivial (fun w h => trivial)
theorem poLeft_ct (gr ga : Nat) (left : Int) (st : Sr) : Ct Tryz.prog 17 #[.pointer (some ⟨gr, 0, none⟩)] (rwF gr ga left st) (fun _ : Unit => .int .u64 left) Tt (fun _ _ => True) := by
  refine Ct.start Tryz.func17 rfl rfl (slots_of rfl slots1) (fun D w0 => Pw.facts (G' := rw2 gr ga left st) (fun w h => allCons (fact0 h).1 (allCons (fact0 h).2.1 (allCons (fact0 h).2.2 allNil))) ?_)
  repeat (first | refine Pw.runs ?_ | refine Pw.list (Pw.box rfl rfl rfl rfl (fun _ => ?_)) | refine Pw.list (Pw.alloc rfl rfl rfl rfl rfl (fun _ => ?_)))
  exact Pw.ret_ (x := ()) (.tmp rfl .nil) rfl trivial (fun w h => trivial)
def budE (st : Sr) (v p : Int) : Option Int := (fnd st v p).bind (fun j => (st[j]?).bind (fun s => s.1.bu[p.toNat]?))
theorem goV_some {st : Sr} {j : Nat} {s : Ent × List Int} (h : st[j]? = some s) : goV st (some j) = .pointer (some ⟨s.1.go, 0, none⟩) := by unfold goV; rw [Option.bind_some, h]
theorem poBudget_ct (gr ga : Nat) (left : Int) (st : Sr) (v p : Int) (hn : (idsS st).Nodup) (hw : ∀ s ∈ st, Wf s) : Ct Tryz.prog 10 #[.pointer (some ⟨gr, 0, none⟩), .int .i64 v, .int .i64 p] (rwF gr ga left st) (fun _ : Unit => match budE st v p with | some b => .tuple #[.int .u64 b, .bool true] | none => .tuple #[.int .u64 0, .bool false]) Tt (fun _ _ => True) := by
  refine Ct.start Tryz.func10 rfl rfl (slots_of rfl slots3) (fun D w0 => ?_)
  repeat (first | refine Pw.runs ?_ | refine Pw.list (Pw.box rfl rfl rfl rfl (fun _ => ?_)) | refine Pw.list (Pw.alloc rfl rfl rfl rfl rfl (fun _ => ?_)))
  refine Pw.list (Pw.call (poFind_ct gr ga left st v p hn) rfl rfl rfl (by kernel_rfl) rfl rfl (fun w h => (hv w h)) ?_)
  intro _ _
  cases hf : fnd st v p with
  | none =>
    have e : budE st v p = none := by unfold budE; rw [hf]; rfl
    rw [show goV st none = .pointer none from rfl]
    repeat (first | refine Pw.runs ?_ | refine Pw.list (Pw.box rfl rfl rfl rfl (fun _ => ?_)) | refine Pw.list (Pw.alloc rfl rfl rfl rfl rfl (fun _ => ?_)))
    exact Pw.ret_ (x := ()) (.tmp rfl (.tmp rfl .nil)) (by rw [e]; rfl) trivial (fun w h => trivial)
  | some j =>
    obtain ⟨s, hs, hid, h0, h1⟩ := fnd_some hf
    have hsm := List.mem_of_getElem? hs
    have hbl := (hw s hsm).b
    have hp1 : p < ((s.1.bu.length : Nat) : Int) := by omega
    obtain ⟨b, hb, _⟩ := get_at (show p.toNat < s.1.bu.length by omega)
    have e : budE st v p = some b := by unfold budE; rw [hf, Option.bind_some, hs]; exact hb
    rw [goV_some hs]
    refine Pw.facts (G' := [fun W => W.heap[s.1.go]? = some (row (entV s.1) 67), U1 s.1.bu s.1.zb]) (fun w h => allCons ((hv w h : rwF gr ga left st w).2.2 s hsm).1 (allCons ((hv w h : rwF gr ga left st w).2.2 s hsm).2.2.1 allNil)) ?_
    repeat (first | refine Pw.runs ?_ | refine Pw.list (Pw.box rfl rfl rfl rfl (fun _ => ?_)) | refine Pw.list (Pw.alloc rfl rfl rfl rfl rfl (fun _ => ?_)))
    obtain ⟨⟨x, pg, zp, bu, ⟨zA, zc⟩, go, gm, gb⟩, bs⟩ := s
    dsimp only at hp1 hb ⊢
    refine Pw.list (Pw.index rfl rfl rfl rfl h0 hp1 (fun w h => (fact1 h).has h0 hp1) rfl rfl ?_)
    intro sd hsd
    dsimp only at hsd
    subst hsd
    refine Pw.list (Pw.load1 rfl rfl (fun w hs => (fact1 hs.all : U1 bu (some sd, zc) w).cell h0 hp1) rfl rfl ?_)
    rw [show rd bu p = b by have := get_rd hb; rwa [Int.toNat_of_nonneg h0] at this]
    repeat (first | refine Pw.runs ?_ | refine Pw.list (Pw.box rfl rfl rfl rfl (fun _ => ?_)) | refine Pw.list (Pw.alloc rfl rfl rfl rfl rfl (fun _ => ?_)))
    exact Pw.ret_ (x := ()) (.tmp rfl (.tmp rfl .nil)) (by rw [e]; rfl) trivial (fun w h => trivial)
abbrev MkA (st : Sr) (W : World) : Prop := ∀ s ∈ st, W.heap[s.1.gb]? = some (row (s.2.map (Value.int .u8)) 5)
def pdE (st : Sr) (v p : Int) : Bool := match fnd st v p with
  | some j => match st[j]? with
    | some s => paidB s p.toNat
    | none => false
  | none => false
theorem poPaid_ct (gr ga : Nat) (left : Int) (st : Sr) (v p : Int) (hn : (idsS st).Nodup) (hw : ∀ s ∈ st, Wf s) : Ct Tryz.prog 11 #[.pointer (some ⟨gr, 0, none⟩), .int .i64 v, .int .i64 p] (fun W => rwF gr ga left st W ∧ MkA st W) (fun _ : Unit => .bool (pdE st v p)) Tt (fun _ _ => True) := by
  refine Ct.start Tryz.func11 rfl rfl (slots_of rfl slots3) (fun D w0 => Pw.facts (G' := [rwF gr ga left st, MkA st]) (fun w h => allCons (fact0 h).1 (allCons (fact0 h).2 allNil)) ?_)
  repeat (first | refine Pw.runs ?_ | refine Pw.list (Pw.box rfl rfl rfl rfl (fun _ => ?_)) | refine Pw.list (Pw.alloc rfl rfl rfl rfl rfl (fun _ => ?_)))
  refine Pw.list (Pw.call (poFind_ct gr ga left st v p hn) rfl rfl rfl (by kernel_rfl) rfl rfl (fun w h => (hv w h)) ?_)
  intro _ _
  cases hf : fnd st v p with
  | none =>
    have e : pdE st v p = false := by unfold pdE; rw [hf]
    rw [show goV st none = .pointer none from rfl]
    repeat (first | refine Pw.runs ?_ | refine Pw.list (Pw.box rfl rfl rfl rfl (fun _ => ?_)) | refine Pw.list (Pw.alloc rfl rfl rfl rfl rfl (fun _ => ?_)))
    exact Pw.ret_ (x := ()) (.tmp rfl .nil) (by rw [e]; rfl) trivial (fun w h => trivial)
  | some j =>
    obtain ⟨s, hs, hid, h0, h1⟩ := fnd_some hf
    have hsm := List.mem_of_getElem? hs
    have hwf := hw s hsm
    have e : pdE st v p = paidB s p.toNat := by
      unfold pdE; rw [hf]
      show (match st[j]? with | some s => paidB s p.toNat | none => false) = _
      rw [hs]
    have hpg := pd_get (s := s) (i := p.toNat) (by omega)
    rw [goV_some hs]
    refine Pw.facts (G' := [fun W => W.heap[s.1.go]? = some (row (entV s.1) 67), mkF s.1.gm s.1.gb s.1.pg.length, fun W => W.heap[s.1.gb]? = some (row (s.2.map (Value.int .u8)) 5)]) (fun w h => allCons ((hv w h : rwF gr ga left st w).2.2 s hsm).1 (allCons ((hv w h : rwF gr ga left st w).2.2 s hsm).2.2.2 (allCons ((hv w h : MkA st w) s hsm) allNil))) ?_
    repeat (first | refine Pw.runs ?_ | refine Pw.list (Pw.box rfl rfl rfl rfl (fun _ => ?_)) | refine Pw.list (Pw.alloc rfl rfl rfl rfl rfl (fun _ => ?_)))
    have hh := mkHas_ct s.1.gm s.1.gb (pdOf s) s.2 hwf.mk_ (by rw [pd_len]; exact hwf.n) p
    rw [decide_eq_true h0, Bool.true_and, hpg, Option.getD_some, pd_len] at hh
    refine Pw.list (Pw.call hh rfl rfl rfl (by kernel_rfl) rfl rfl (fun w h => ⟨fact1 h, fact2 h⟩) ?_)
    intro _ _
    repeat (first | refine Pw.runs ?_ | refine Pw.list (Pw.box rfl rfl rfl rfl (fun _ => ?_)) | refine Pw.list (Pw.alloc rfl rfl rfl rfl rfl (fun _ => ?_)))
    exact Pw.ret_ (x := ()) (.tmp rfl .nil) (by rw [e]; rfl) trivial (fun w h => trivial)
end Go.Proofs.Wk
/- Rewards: Pay walked. -/
namespace Go.Proofs.Wk
open Go.RowKit
set_option maxRecDepth 100000
set_option maxHeartbeats 8000000
attribute [local irreducible] Pw OpG
set_option linter.unusedVariables false
set_option linter.unusedSimpArgs false
theorem permJ : ∀ {st : Sr} {j : Nat} {s : Ent × List Int}, st[j]? = some s → (rwL st).Perm (mkB s.1.gb s.2 :: rwL (st.eraseIdx j))
  | [], j, s, h => by cases h
  | t :: st, 0, s, h => by
    rw [← Option.some.inj h]; exact .refl _
  | t :: st, j + 1, s, h => by
    have ih := permJ (st := st) (j := j) h
    exact (List.Perm.cons _ ih).trans (.swap ..)
theorem permJs : ∀ {st : Sr} {j : Nat} {s s' : Ent × List Int}, st[j]? = some s → (mkB s'.1.gb s'.2 :: rwL (st.eraseIdx j)).Perm (rwL (st.set j s'))
  | [], j, s, s', h => by cases h
  | t :: st, 0, s, s', h => .refl _
  | t :: st, j + 1, s, s', h => by
    have ih := permJs (st := st) (j := j) (s' := s') h
    exact (List.Perm.swap ..).trans (List.Perm.cons _ ih)
/-- What a page is paid. -/
def comE (b com : Int) : Int := b * com / 1000000000
def amtE (b com : Int) (p : List Pt) : List Int × Int := spF (b - comE b com) (stk p)
def payL (v b com : Int) (p : List Pt) : List Pt := (v, comE b com) :: (p.map Prod.fst).zip (amtE b com p).1
theorem zip_snoc {l : List Pt} {a : List Int} {i : Nat} {p : Pt} {n : Int} (hp : l[i]? = some p) (hn : a[i]? = some n) : ((l.map Prod.fst).zip a).take (i + 1) = ((l.map Prod.fst).zip a).take i ++ [(p.1, n)] := by
  refine take_snoc ?_
  exact List.getElem?_zip_eq_some.2 ⟨by rw [List.getElem?_map, hp]; rfl, hn⟩
theorem cellsP_app (l m : List Pt) : cellsP (l ++ m) = cellsP l ++ cellsP m := by unfold cellsP; rw [List.flatMap_append]
/-- What the reward's entries are: amounts of 64 bits. -/
structure Eu (s : Ent × List Int) : Prop where
  c : 0 ≤ s.1.x.com ∧ s.1.x.com ≤ 1000000000
  b : ∀ b ∈ s.1.bu, U64 b
  p : ∀ p ∈ s.1.pg, p.1.length ≤ 100000 ∧ ∀ n ∈ stk p.1, U64 n
/-- What Pay answers: the payments, the dust, the error. -/
def payA (st : Sr) (v p : Int) : List Pt × Int × Int := match fnd st v p with
  | none => ([], 0, 5)
  | some j => match st[j]? with
    | none => ([], 0, 5)
    | some s => if paidB s p.toNat = true then ([], 0, 17) else
      let b := (s.1.bu[p.toNat]?).getD 0
      let pg := ((s.1.pg[p.toNat]?).map Prod.fst).getD []
      (payL v b s.1.x.com pg, (amtE b s.1.x.com pg).2, 0)
/-- The state behind Pay. -/
def payS (st : Sr) (v p : Int) : Sr := match fnd st v p with
  | none => st
  | some j => match st[j]? with
    | none => st
    | some s => if paidB s p.toNat = true then st else st.set j (setB s p.toNat)
theorem poPay_ct (gr ga : Nat) (left : Int) (st : Sr) (v p : Int) (hn : (idsS st).Nodup) (hw : ∀ s ∈ st, Wf s) (hu : ∀ s ∈ st, Eu s) : CtB Tryz.prog 12 #[.pointer (some ⟨gr, 0, none⟩), .int .i64 v, .int .i64 p] (rwL st) (rwF gr ga left st)
    (fun z : Option Addr × Nat => .tuple #[psV (payA st v p).1 z, .int .u64 (payA st v p).2.1, .int .i64 (payA st v p).2.2]) Tt (fun _ => rwL (payS st v p)) (fun z => PS (payA st v p).1 z) := by
  refine CtB.start Tryz.func12 rfl rfl (slots_of rfl slots3) (fun D0 w0 => ?_)
  repeat (first | refine Pw.runs ?_ | refine Pw.list (Pw.box rfl rfl rfl rfl (fun _ => ?_)) | refine Pw.list (Pw.alloc rfl rfl rfl rfl rfl (fun _ => ?_)))
  refine Pw.list (Pw.call (poFind_ct gr ga left st v p hn) rfl rfl rfl (by kernel_rfl) rfl rfl (fun w h => (hv w h)) ?_)
  intro _ _
  cases hf : fnd st v p with
  | none =>
    have e : payA st v p = ([], 0, 5) := by unfold payA; rw [hf]
    have e2 : payS st v p = st := by unfold payS; rw [hf]
    rw [e, e2, show goV st none = .pointer none from rfl]
    repeat (first | refine Pw.runs ?_ | refine Pw.list (Pw.box rfl rfl rfl rfl (fun _ => ?_)) | refine Pw.list (Pw.alloc rfl rfl rfl rfl rfl (fun _ => ?_)))
    exact Pw.retB (x := (none, 0)) (List.Sublist.refl _) (.tmp rfl (.tmp rfl (.tmp rfl .nil))) rfl trivial (fun w h => Rows.nil _ _ _ _ _)
  | some j =>
    obtain ⟨s, hs, hid, h0, h1⟩ := fnd_some hf
    have hsm := List.mem_of_getElem? hs
    have hwf := hw s hsm
    obtain ⟨uc, ub, up⟩ := hu s hsm
    obtain ⟨i, rfl⟩ := Int.eq_ofNat_of_zero_le h0
    have hi : i < s.1.pg.length := by omega
    have hpd := pd_get (s := s) hi
    have e0 : payA st v (i : Int) = if paidB s i = true then ([], 0, 17) else (payL v ((s.1.bu[i]?).getD 0) s.1.x.com (((s.1.pg[i]?).map Prod.fst).getD []), (amtE ((s.1.bu[i]?).getD 0) s.1.x.com (((s.1.pg[i]?).map Prod.fst).getD [])).2, 0) := by
      unfold payA; rw [hf]
      show (match st[j]? with | none => _ | some s => _) = _
      rw [hs]; rfl
    have e1 : payS st v (i : Int) = if paidB s i = true then st else st.set j (setB s i) := by
      unfold payS; rw [hf]
      show (match st[j]? with | none => _ | some s => _) = _
      rw [hs]; rfl
    obtain ⟨b, hb, hbm⟩ := get_at (show i < s.1.bu.length by rw [hwf.b]; exact hi)
    obtain ⟨⟨pp, Az, cz⟩, hpp, hppm⟩ := get_at hi
    rw [hb, hpp] at e0
    dsimp only [Option.getD_some, Option.map_some] at e0
    have hbU := ub b hbm
    obtain ⟨ppl, ppu⟩ := up _ hppm
    dsimp only at ppl ppu
    have hms := mkSet_ct s.1.gm s.1.gb (pdOf s) s.2 hwf.mk_ (by rw [pd_len]; exact hwf.n) i (by rw [pd_len]; exact hi)
    rw [hpd, Option.getD_some, pd_len] at hms
    rw [goV_some hs]
    have hp0 : (0 : Int) ≤ (i : Int) := Int.natCast_nonneg i
    refine Pw.perm (permJ hs) ?_
    refine Pw.facts (G' := [fun W => W.heap[s.1.go]? = some (row (entV s.1) 67), U1 s.1.bu s.1.zb, PGS s.1.pg s.1.zp, mkF s.1.gm s.1.gb s.1.pg.length]) (fun w h => allCons ((hv w h : rwF gr ga left st w).2.2 s hsm).1 (allCons ((hv w h : rwF gr ga left st w).2.2 s hsm).2.2.1 (allCons ((hv w h : rwF gr ga left st w).2.2 s hsm).2.1 (allCons ((hv w h : rwF gr ga left st w).2.2 s hsm).2.2.2 allNil)))) ?_
    repeat (first | refine Pw.runs ?_ | refine Pw.list (Pw.box rfl rfl rfl rfl (fun _ => ?_)) | refine Pw.list (Pw.alloc rfl rfl rfl rfl rfl (fun _ => ?_)))
    refine Pw.list (Pw.callB (L0 := rwL (st.eraseIdx j)) hms rfl rfl rfl rfl (by kernel_rfl) rfl rfl (fun w h => (hv w h)) ?_)
    intro _ _
    cases hpb : paidB s i
    · rw [hpb, if_neg Bool.false_ne_true] at e0 e1
      rw [if_neg Bool.false_ne_true, if_neg Bool.false_ne_true]
      refine Pw.perm (permJs (s' := setB s i) hs) ?_
      rw [e0, e1]
      generalize st.set j (setB s i) = st'
      obtain ⟨⟨x, pg, ⟨Ap, cp⟩, bu, ⟨Ab, cb⟩, go, gm, gb⟩, bs⟩ := s
      dsimp only at hb hpp hi h1 uc
      have hb1 : (i : Int) < ((bu.length : Nat) : Int) := by have := (List.getElem?_eq_some_iff.1 hb).1; omega
      have hcom := part_le (a := b) (n := x.com) (d := 1000000000) hbU.1 uc.1 (by omega) uc.2
      have hbU2 := hbU.2
      have hcomE : b * x.com / 1000000000 = comE b x.com := rfl
      rw [hcomE] at hcom
      have hal : (amtE b x.com pp).1.length = pp.length := by unfold amtE; rw [spF_len, stk_len]
      refine Pw.facts (G' := [U1 bu (Ab, cb), PGS pg (Ap, cp), fun W => W.heap[go]? = some (row (entV ⟨x, pg, (Ap, cp), bu, (Ab, cb), go, gm, gb⟩) 67)]) (fun w h => allCons (hv w h) (allCons (hv w h) (allCons (fx h) allNil))) ?_
      refine Pw.use (p := Ab.isSome = true) (fun w h => (fact0 h).has hp0 hb1) (fun hA => ?_)
      obtain ⟨abd, rfl⟩ := Option.isSome_iff_exists.1 hA
      refine Pw.use (p := Ap.isSome = true) (fun w h => (fact1 h).has hp0 h1) (fun hA => ?_)
      obtain ⟨apd, rfl⟩ := Option.isSome_iff_exists.1 hA
      have hrdb := get_rd hb
      repeat (first | refine Pw.runs ?_ | refine Pw.list (Pw.box rfl rfl rfl rfl (fun _ => ?_)) | refine Pw.list (Pw.alloc rfl rfl rfl rfl rfl (fun _ => ?_)))
      refine Pw.drawnG mixed rfl rfl ?_
      refine Pw.takeP 0 (nb 17 1) rfl rfl rfl rfl (by kernel_rfl) np sf ?_
      refine Pw.takeP 1 (nb 17 3) rfl rfl rfl rfl (by kernel_rfl) np sf ?_
      refine Pw.takeP 2 (nb 17 7) rfl rfl rfl rfl (by kernel_rfl) np sf ?_
      refine Pw.takeF 3 (nb 17 15) rfl rfl inferInstance rfl rfl rfl (by kernel_rfl) np sf ?_
      refine Pw.takeP 4 (nb 17 31) rfl rfl rfl rfl (by kernel_rfl) np sf ?_
      refine Pw.takeIx 5 (nb 17 63) rfl rfl rfl rfl rfl (by first | assumption | omega) (by first | assumption | omega) rfl rfl (by kernel_rfl) np sf ?_
      refine Pw.takeLd 6 (nb 17 127) rfl rfl rfl (fun w hS => by first | exact own_cell (fact0 hS) (by first | assumption | omega) (by first | assumption | omega) | exact own_cellX (fact0 hS) (by first | assumption | omega) (by first | assumption | omega) | exact (fact0 hS).cell (by first | assumption | omega) (by first | assumption | omega) | exact (fact1 hS).cell (by first | assumption | omega) (by first | assumption | omega) | exact (fact2 hS).cell (by first | assumption | omega) (by first | assumption | omega) | exact (fact3 hS).cell (by first | assumption | omega) (by first | assumption | omega)) rfl rfl (by kernel_rfl) np sf ?_
      refine Pw.takeP 7 (nb 17 255) rfl rfl rfl rfl (by kernel_rfl) np sf ?_
      refine Pw.takeP 8 (nb 17 511) rfl rfl rfl rfl (by kernel_rfl) np sf ?_
      refine Pw.takeP 9 (nb 17 1023) rfl rfl rfl rfl (by kernel_rfl) np sf ?_
      refine Pw.takeF 10 (nb 17 2047) rfl rfl inferInstance rfl rfl rfl (by kernel_rfl) np sf ?_
      refine Pw.one 11 (nb 17 4095) rfl (by kernel_rfl) ?_
      -- call Op.call { callee := Callee.value (Operand.func 35), args := #[Operand.tmp 39, Operand.tmp 43, Operand.const (Value.int IntKind.u64 1000000000)], argTy
      rw [hrdb]
      refine Pw.call (mPart_ct b x.com 1000000000 hbU ⟨uc.1, by omega⟩ ⟨by omega, by omega⟩ (by omega) uc.2) rfl rfl rfl (by kernel_rfl) rfl rfl (fun w h => trivial) ?_
      intro _ _
      rw [hcomE]
      refine Pw.held sf ?_
      refine Pw.takeP 12 (nb 17 8191) rfl rfl rfl rfl (by kernel_rfl) np sf ?_
      refine Pw.takeP 13 (nb 17 16383) rfl rfl rfl rfl (by kernel_rfl) np sf ?_
      refine Pw.takeP 14 (nb 17 32767) rfl rfl rfl rfl (by kernel_rfl) np sf ?_
      refine Pw.takeP 15 (nb 17 65535) rfl rfl rfl rfl (by kernel_rfl) np sf ?_
      refine Pw.takeP 16 (nb 17 131071) rfl rfl rfl rfl (by kernel_rfl) np sf ?_
      refine Pw.done (by kernel_rfl) ?_
      repeat (first | refine Pw.runs ?_ | refine Pw.list (Pw.box rfl rfl rfl rfl (fun _ => ?_)) | refine Pw.list (Pw.alloc rfl rfl rfl rfl rfl (fun _ => ?_)))
      refine Pw.drawnG mixed rfl rfl ?_
      refine Pw.takeP 0 (nb 23 1) rfl rfl rfl rfl (by kernel_rfl) np sf ?_
      refine Pw.takeP 1 (nb 23 3) rfl rfl rfl rfl (by kernel_rfl) np sf ?_
      refine Pw.takeP 2 (nb 23 7) rfl rfl rfl rfl (by kernel_rfl) np sf ?_
      refine Pw.takeF 3 (nb 23 15) rfl rfl inferInstance rfl rfl rfl (by kernel_rfl) np sf ?_
      refine Pw.takeP 4 (nb 23 31) rfl rfl rfl rfl (by kernel_rfl) np sf ?_
      refine Pw.takeIx 5 (nb 23 63) rfl rfl rfl rfl rfl (by first | assumption | omega) (by first | assumption | omega) rfl rfl (by kernel_rfl) np sf ?_
      refine Pw.takeLd 6 (nb 23 127) rfl rfl rfl (fun w hS => by first | exact own_cell (fact0 hS) (by first | assumption | omega) (by first | assumption | omega) | exact own_cellX (fact0 hS) (by first | assumption | omega) (by first | assumption | omega) | exact (fact0 hS).cell (by first | assumption | omega) (by first | assumption | omega) | exact (fact1 hS).cell (by first | assumption | omega) (by first | assumption | omega) | exact (fact2 hS).cell (by first | assumption | omega) (by first | assumption | omega) | exact (fact3 hS).cell (by first | assumption | omega) (by first | assumption | omega)) rfl rfl (by kernel_rfl) np sf ?_
      refine Pw.takeP 7 (nb 23 255) rfl rfl rfl rfl (by kernel_rfl) np sf ?_
      refine Pw.takeP 8 (nb 23 511) rfl rfl rfl rfl (by kernel_rfl) np sf ?_
      refine Pw.re (d := 56) (v' := .int .u64 (b - comE b x.com)) rfl (congrArg (Value.int .u64) (by rw [hrdb]; exact wu (by omega) (by omega))) ?_
      refine Pw.takeP 9 (nb 23 1023) rfl rfl rfl rfl (by kernel_rfl) np sf ?_
      refine Pw.takeP 10 (nb 23 2047) rfl rfl rfl rfl (by kernel_rfl) np sf ?_
      refine Pw.takeP 11 (nb 23 4095) rfl rfl rfl rfl (by kernel_rfl) np sf ?_
      refine Pw.takeF 12 (nb 23 8191) rfl rfl inferInstance rfl rfl rfl (by kernel_rfl) np sf ?_
      refine Pw.takeP 13 (nb 23 16383) rfl rfl rfl rfl (by kernel_rfl) np sf ?_
      refine Pw.takeIx 14 (nb 23 32767) rfl rfl rfl rfl rfl (by first | assumption | omega) (by first | assumption | omega) rfl rfl (by kernel_rfl) np sf ?_
      refine Pw.takeLC (pp, Az, cz) 15 (nb 23 65535) rfl rfl inferInstance rfl (by first | assumption | (rw [Int.toNat_natCast]; assumption)) rfl rfl rfl rfl (by kernel_rfl) np sf ?_
      refine Pw.one 16 (nb 23 131071) rfl (by kernel_rfl) ?_
      -- call Op.call { callee := Callee.value (Operand.func 23), args := #[Operand.tmp 63], argTypes := #[44] }
      refine Pw.callL (Stakes_ct pp (Az, cz) (by omega)) rfl rfl rfl (by kernel_rfl) rfl rfl (fun w h => ((hv w h : PGS pg (some apd, cp) w).at hpp).2.1) ?_
      intro q1 hq1
      refine Pw.freeG hq1 (fun As cs' es hcs => ?_)
      refine Pw.re (d := 64) (v' := sl (stk pp) (As, cs')) rfl (by rw [es]; show Value.slice As _ cs' = .slice As (stk pp).length cs'; rw [stk_len]) ?_
      refine Pw.held sf ?_
      refine Pw.one 17 (nb 23 262143) rfl (by kernel_rfl) ?_
      -- call Op.call { callee := Callee.value (Operand.func 20), args := #[Operand.tmp 56, Operand.tmp 64], argTypes := #[22, 24] }
      refine Pw.call (psplit_ct (b - comE b x.com) (stk pp) (As, cs') ⟨by omega, by omega⟩ ppu (by rw [stk_len]; omega)) rfl rfl rfl (by kernel_rfl) rfl rfl (fun w h => ints_of_cells (by rw [stk_len]; exact hcs) (by rw [stk_len]; simp only [maxLen]; omega) (by have h9 := allTail (allTail h); first | exact fact0 h | exact fact0 (allTail h) | exact fact1 h)) ?_
      intro zA _
      rw [show spF (b - comE b x.com) (stk pp) = amtE b x.com pp from rfl]
      refine Pw.held sf ?_
      refine Pw.takeP 18 (nb 23 524287) rfl rfl rfl rfl (by kernel_rfl) np sf ?_
      refine Pw.takeP 19 (nb 23 1048575) rfl rfl rfl rfl (by kernel_rfl) np sf ?_
      refine Pw.takeP 20 (nb 23 2097151) rfl rfl rfl rfl (by kernel_rfl) np sf ?_
      refine Pw.takeP 21 (nb 23 4194303) rfl rfl rfl rfl (by kernel_rfl) np sf ?_
      refine Pw.takeP 22 (nb 23 8388607) rfl rfl rfl rfl (by kernel_rfl) np sf ?_
      refine Pw.done (by kernel_rfl) ?_
      repeat (first | refine Pw.runs ?_ | refine Pw.list (Pw.box rfl rfl rfl rfl (fun _ => ?_)) | refine Pw.list (Pw.alloc rfl rfl rfl rfl rfl (fun _ => ?_)))
      refine Pw.list (Pw.lit12 rfl rfl rfl rfl rfl rfl rfl rfl rfl (fun gL0 => ?_))
      repeat (first | refine Pw.runs ?_ | refine Pw.list (Pw.box rfl rfl rfl rfl (fun _ => ?_)) | refine Pw.list (Pw.alloc rfl rfl rfl rfl rfl (fun _ => ?_)))
      refine Pw.list (Pw.indexS rfl rfl rfl rfl hp0 h1 rfl rfl ?_)
      refine Pw.list (Pw.loadC (pp, Az, cz) rfl inferInstance rfl (by rw [Int.toNat_natCast]; exact hpp) rfl rfl rfl rfl ?_)
      repeat (first | refine Pw.runs ?_ | refine Pw.list (Pw.box rfl rfl rfl rfl (fun _ => ?_)) | refine Pw.list (Pw.alloc rfl rfl rfl rfl rfl (fun _ => ?_)))
      refine Pw.eqL (L' := gL (some (gL0, 1, [])) (cellsP [(v, comE b x.com)]) 93 ++ rwL st') rfl ?_
      have hpyl : (payL v b x.com pp).length = pp.length + 1 := by
        unfold payL; rw [List.length_cons, List.length_zip, List.length_map, hal]; omega
      have hpt0 : (payL v b x.com pp).take 1 = [(v, comE b x.com)] := by unfold payL; rfl
      refine Pw.loopJ (σ := Nat × Gr) (fun t => t.1 ≤ pp.length ∧ gOk t.2 (cellsP ((payL v b x.com pp).take (t.1 + 1))) (t.1 + 1) 2) (fun t => ⟨[(12, sl (amtE b x.com pp).1 zA), (13, .int .u64 (amtE b x.com pp).2), (14, gv t.2 (t.1 + 1)), (78, .slice Az pp.length cz), (79, .int .i64 pp.length), (80, .int .i64 t.1)], gL t.2 (cellsP ((payL v b x.com pp).take (t.1 + 1))) 93 ++ rwL st', [U1 (amtE b x.com pp).1 zA, PS pp (Az, cz)]⟩) (fun t => pp.length - t.1) (0, some (gL0, 1, [])) ⟨Nat.zero_le _, by dsimp only; rw [hpt0]; exact ⟨rfl, Nat.le_refl _, rfl⟩⟩ (by
        intro X h
        dsimp only at h
        rw [hpt0] at h
        refine Pw.enter ?_ ?_ X h
        · exact ⟨rfl, rfl, rfl, rfl, rfl, rfl, trivial⟩
        · exact fun w h => allCons (hv w h) (allCons ((hv w h : PGS pg (some apd, cp) w).at hpp).2.1 allNil)) ?_
      rintro ⟨m, q⟩ ⟨hm, hq⟩
      dsimp only at hm hq ⊢
      repeat (first | refine Pw.runs ?_ | refine Pw.list (Pw.box rfl rfl rfl rfl (fun _ => ?_)) | refine Pw.list (Pw.alloc rfl rfl rfl rfl rfl (fun _ => ?_)))
      refine Pw.condD rfl (fun c5 => ?_) (fun c5 => ?_)
      · have hm0 : (0 : Int) ≤ (m : Int) := Int.natCast_nonneg m
        obtain ⟨pt, hpt, _⟩ := get_at (show m < pp.length by omega)
        obtain ⟨am, ham, _⟩ := get_at (show m < (amtE b x.com pp).1.length by omega)
        have c6 : (m : Int) < (((amtE b x.com pp).1.length : Nat) : Int) := by omega
        have htk : (payL v b x.com pp).take (m + 1 + 1) = (payL v b x.com pp).take (m + 1) ++ [(pt.1, am)] := by
          unfold payL
          rw [List.take_succ_cons, List.take_succ_cons, zip_snoc hpt ham]; rfl
        obtain ⟨zA1, zA2⟩ := zA
        refine Pw.use (p := zA1.isSome = true) (fun w h => (fact0 h).has hm0 c6) (fun hA => ?_)
        obtain ⟨zad, rfl⟩ := Option.isSome_iff_exists.1 hA
        have hrda := get_rd ham
        repeat (first | refine Pw.runs ?_ | refine Pw.list (Pw.box rfl rfl rfl rfl (fun _ => ?_)) | refine Pw.list (Pw.alloc rfl rfl rfl rfl rfl (fun _ => ?_)))
        refine Pw.list (Pw.index rfl rfl rfl rfl hm0 c5 (fun w h => (hv w h : PS pp (Az, cz) w).has hm0 c5) rfl rfl ?_)
        rintro pad rfl
        refine Pw.list (Pw.loadR pt rfl inferInstance rfl (by rw [Int.toNat_natCast]; exact hpt) (by kernel_rfl) rfl rfl ?_)
        refine Pw.re (d := 84) (v' := ptV pt) rfl rfl ?_
        refine Pw.list (Pw.alloc rfl rfl rfl rfl rfl (fun g16 => ?_))
        repeat (first | refine Pw.runs ?_ | refine Pw.list (Pw.box rfl rfl rfl rfl (fun _ => ?_)) | refine Pw.list (Pw.alloc rfl rfl rfl rfl rfl (fun _ => ?_)))
        refine freeHead ?_
        refine Pw.facts (G' := [U1 (amtE b x.com pp).1 (some zad, zA2), PS pp (some pad, cz), fun W => W.heap[g16]? = some (row [.int .i64 pt.1, .int .u64 pt.2] 93)]) (fun w h => allCons (hv w h) (allCons (hv w h) (allCons (fx h) allNil))) ?_
        refine Pw.drawnG mixed rfl rfl ?_
        refine Pw.takeP 0 (nb 11 1) rfl rfl rfl rfl (by kernel_rfl) np sf ?_
        refine Pw.takeP 1 (nb 11 3) rfl rfl rfl rfl (by kernel_rfl) np sf ?_
        refine Pw.takeF 2 (nb 11 7) rfl rfl inferInstance rfl rfl rfl (by kernel_rfl) np sf ?_
        refine Pw.takeP 3 (nb 11 15) rfl rfl rfl rfl (by kernel_rfl) np sf ?_
        refine Pw.takeP 4 (nb 11 31) rfl rfl rfl rfl (by kernel_rfl) np sf ?_
        refine Pw.takeIx 5 (nb 11 63) rfl rfl rfl rfl rfl (by first | assumption | omega) (by first | assumption | omega) rfl rfl (by kernel_rfl) np sf ?_
        refine Pw.takeLd 6 (nb 11 127) rfl rfl rfl (fun w hS => by first | exact own_cell (fact0 hS) (by first | assumption | omega) (by first | assumption | omega) | exact own_cellX (fact0 hS) (by first | assumption | omega) (by first | assumption | omega) | exact (fact0 hS).cell (by first | assumption | omega) (by first | assumption | omega) | exact (fact1 hS).cell (by first | assumption | omega) (by first | assumption | omega) | exact (fact2 hS).cell (by first | assumption | omega) (by first | assumption | omega) | exact (fact3 hS).cell (by first | assumption | omega) (by first | assumption | omega)) rfl rfl (by kernel_rfl) np sf ?_
        refine Pw.takeBuild 7 (nb 11 255) rfl rfl rfl rfl rfl (by kernel_rfl) np sf ?_
        refine Pw.one 8 (nb 11 511) rfl (by kernel_rfl) ?_
        -- eff Op.buildSlice 44 1 #[(0, Operand.tmp 92)]
        rw [hrda]
        refine Pw.lit12 rfl rfl rfl rfl rfl rfl rfl rfl rfl (fun g1 => freeHead ?_)
        refine Pw.held sf ?_
        refine Pw.one 9 (nb 11 1023) rfl (by kernel_rfl) ?_
        -- call Op.call { callee := Callee.builtin Builtin.append, args := #[Operand.tmp 85, Operand.tmp 93], argTypes := #[44, 44] }
        refine Pw.push (s := q) (m := m + 1) (news := encP (pt.1, am)) rfl rfl rfl rfl rfl rfl rfl hq rfl (fun u hu => by
          simp only [encP, List.mem_cons, List.not_mem_nil, or_false] at hu
          rcases hu with rfl | rfl <;> rfl) (fun w hs j u hu => by
          have h1 : w.heap[g1]? = some (row (encP (pt.1, am)) 93) := fact0 hs.all
          rw [add_none, cell_of_blk h1]
          simpa using hu) (by omega) (by simp only [maxLen]; omega) (by show (m + 1 + 1) * 16 ≤ _; omega) rfl rfl (fun q' hq' => ?_)
        have e4 : cellsP ((payL v b x.com pp).take (m + 1)) ++ encP (pt.1, am) = cellsP ((payL v b x.com pp).take (m + 1 + 1)) := by rw [htk, cellsP_app]; unfold cellsP; simp
        rw [e4] at hq' ⊢
        refine Pw.held sf ?_
        refine Pw.takeP 10 (nb 11 2047) rfl rfl rfl rfl (by kernel_rfl) np sf ?_
        refine Pw.done (by kernel_rfl) ?_
        repeat (first | refine Pw.runs ?_ | refine Pw.list (Pw.box rfl rfl rfl rfl (fun _ => ?_)) | refine Pw.list (Pw.alloc rfl rfl rfl rfl rfl (fun _ => ?_)))
        refine Pw.re (d := 80) (v' := .int .i64 ((m + 1 : Nat) : Int)) rfl (congrArg (Value.int .i64) (i64s (n := 100000) (by omega) (by omega))) ?_
        exact Pw.again (m + 1, q') ⟨by show m + 1 ≤ pp.length; omega, hq'⟩ (by show pp.length - (m + 1) < pp.length - m; omega) ⟨rfl, rfl, rfl, rfl, rfl, rfl, trivial⟩ rfl (fun w h => allCons (hv w h) (allCons (hv w h) allNil))
      · obtain rfl : m = pp.length := by omega
        rw [← hpyl, List.take_length] at hq ⊢
        refine Pw.freeG hq (fun A' c' e hc => ?_)
        rw [e]
        repeat (first | refine Pw.runs ?_ | refine Pw.list (Pw.box rfl rfl rfl rfl (fun _ => ?_)) | refine Pw.list (Pw.alloc rfl rfl rfl rfl rfl (fun _ => ?_)))
        exact Pw.retB (x := (A', c')) (List.Sublist.refl _) (.tmp rfl (.tmp rfl (.tmp rfl .nil))) rfl trivial (fun w h => rows_of_cells (fun _ _ => rfl) (fun _ _ => trivial) hc (by rw [hpyl]; simp only [maxLen]; omega) (by omega) (fact0 h))
    · rw [hpb, if_pos rfl] at e0 e1
      rw [if_pos rfl, if_pos rfl, e0, e1]
      refine Pw.perm (permJ hs).symm ?_
      repeat (first | refine Pw.runs ?_ | refine Pw.list (Pw.box rfl rfl rfl rfl (fun _ => ?_)) | refine Pw.list (Pw.alloc rfl rfl rfl rfl rfl (fun _ => ?_)))
      exact Pw.retB (x := (none, 0)) (List.Sublist.refl _) (.tmp rfl (.tmp rfl (.tmp rfl .nil))) rfl trivial (fun w h => Rows.nil _ _ _ _ _)
end Go.Proofs.Wk
/- Elections: what holds of the model's states: bounds. -/
namespace Go.Proofs.Wk
open Go.RowKit
set_option linter.unusedVariables false
set_option linter.unusedSimpArgs false
theorem sumL_cons (f : Nat → Int) (i : Nat) (l : List Nat) : sumL f (i :: l) = f i + sumL f l := by unfold sumL; simp
theorem sumL_nonneg {f : Nat → Int} : ∀ {l : List Nat}, (∀ i ∈ l, 0 ≤ f i) → 0 ≤ sumL f l
  | [], _ => Int.le_refl _
  | i :: l, h => by
    rw [sumL_cons]
    have := h i (List.mem_cons_self ..); have := sumL_nonneg (fun j hj => h j (List.mem_cons_of_mem _ hj)); omega
theorem sumL_le {f g : Nat → Int} : ∀ {l : List Nat}, (∀ i ∈ l, f i ≤ g i) → sumL f l ≤ sumL g l
  | [], _ => Int.le_refl _
  | i :: l, h => by
    rw [sumL_cons, sumL_cons]
    have := h i (List.mem_cons_self ..); have := sumL_le (fun j hj => h j (List.mem_cons_of_mem _ hj)); omega
theorem sumL_sub {f : Nat → Int} {l m : List Nat} (h : l.Sublist m) (h0 : ∀ i, 0 ≤ f i) : sumL f l ≤ sumL f m := by
  induction h with
  | slnil => exact Int.le_refl _
  | cons a _ ih => rw [sumL_cons]; have := h0 a; omega
  | cons_cons a _ ih => rw [sumL_cons, sumL_cons]; omega
/-- Stakes that are together no more than a number of 64 bits. -/
structure VOk (vs : List Vtr) : Prop where
  s : ∀ i, 0 ≤ st vs i
  t : sumL (st vs) (List.range vs.length) ≤ 18446744073709551615
structure EOk (vs : List Vtr) (a : Nat) (S : Est) : Prop where
  d0 : 0 < S.D
  d1 : S.D < pw a
  ll : S.ld.length = vs.length
  l0 : ∀ x ∈ S.ld, 0 ≤ x ∧ x < pw a
  el : S.ed.length = vs.length
  e0 : ∀ i l, S.ed[i]? = some l → (∀ x ∈ l, 0 ≤ x.2.1 ∧ x.2.1 < pw a ∧ 0 < x.2.2 ∧ x.2.2 < pw a) ∧ (l ≠ [] → 0 < at0 S.ld i)
  s0 : ∀ x ∈ S.se, 0 ≤ x.2.1 ∧ x.2.1 < pw a ∧ 0 < x.2.2 ∧ x.2.2 < pw a
  k0 : ∀ (i : Nat) (l : List (Int × Int × Int)), S.ed[i]? = some l → ∀ x ∈ l, ∃ y ∈ S.se, y.1 = x.1
theorem at0_ok {l : List Int} {p : Int} (hp : 0 < p) (h : ∀ x ∈ l, 0 ≤ x ∧ x < p) (i : Nat) : 0 ≤ at0 l i ∧ at0 l i < p := by
  unfold at0
  cases e : l[i]? with
  | none => exact ⟨Int.le_refl _, hp⟩
  | some x => exact h x (List.mem_of_getElem? e)
theorem EOk.at {vs : List Vtr} {a : Nat} {S : Est} (h : EOk vs a S) (i : Nat) : 0 ≤ at0 S.ld i ∧ at0 S.ld i < pw a := at0_ok (pw_pos a) h.l0 i
end Go.Proofs.Wk
/- Rewards: Open walked. -/
namespace Go.Proofs.Wk
open Go.RowKit
set_option maxRecDepth 100000
set_option maxHeartbeats 8000000
attribute [local irreducible] Pw OpG
set_option linter.unusedVariables false
set_option linter.unusedSimpArgs false
def opI (s : Ent × List Int) (i : Nat) : Int := if paidB s i = true then 0 else (s.1.bu[i]?).getD 0
def opT (s : Ent × List Int) (k : Nat) : Int := sumL (opI s) (List.range k)
def opE (s : Ent × List Int) : Int := opT s s.1.bu.length
def opAt (st : Sr) (i : Nat) : Int := match st[i]? with | some s => opE s | none => 0
def openS (st : Sr) : Int := sumL (opAt st) (List.range st.length)
theorem opT_succ (s : Ent × List Int) (k : Nat) : opT s (k + 1) = opT s k + opI s k := by unfold opT; rw [List.range_succ, sumL_snoc]
theorem opI_nn {s : Ent × List Int} (h : Eu s) (i : Nat) : 0 ≤ opI s i := by
  unfold opI
  split
  · exact Int.le_refl _
  · cases e : s.1.bu[i]? with
    | none => exact Int.le_refl _
    | some b => exact (h.b b (List.mem_of_getElem? e)).1
theorem opT_le {s : Ent × List Int} (h : Eu s) {k m : Nat} (hk : k ≤ m) : 0 ≤ opT s k ∧ opT s k ≤ opT s m :=
  ⟨sumL_nonneg fun i _ => opI_nn h i, sumL_sub (by rw [List.range_sublist]; exact hk) (opI_nn h)⟩
theorem opAt_nn {st : Sr} (hu : ∀ s ∈ st, Eu s) (i : Nat) : 0 ≤ opAt st i := by
  unfold opAt
  cases e : st[i]? with
  | none => exact Int.le_refl _
  | some s => exact (opT_le (hu s (List.mem_of_getElem? e)) (Nat.le_refl _)).1
theorem sumL_perm {f : Nat → Int} {l m : List Nat} (h : l.Perm m) : sumL f l = sumL f m := by
  induction h with
  | nil => rfl
  | cons x _ ih => rw [sumL_cons, sumL_cons, ih]
  | swap x y l => rw [sumL_cons, sumL_cons, sumL_cons, sumL_cons]; omega
  | trans _ _ ih1 ih2 => exact ih1.trans ih2
theorem perm_range {l : List Nat} {n : Nat} (h1 : l.Nodup) (h2 : ∀ i ∈ l, i < n) : l.Perm ((List.range n).filter (fun i => decide (i ∈ l))) := by
  refine (List.perm_ext_iff_of_nodup h1 (List.nodup_range.sublist List.filter_sublist)).2 fun i => ?_
  rw [List.mem_filter, List.mem_range, decide_eq_true_eq]
  exact ⟨fun h => ⟨h2 i h, h⟩, fun h => h.2⟩
theorem sumL_part {f : Nat → Int} (hf : ∀ i, 0 ≤ f i) {l : List Nat} {n : Nat} (h1 : l.Nodup) (h2 : ∀ i ∈ l, i < n) : 0 ≤ sumL f l ∧ sumL f l ≤ sumL f (List.range n) := by
  refine ⟨sumL_nonneg fun i _ => hf i, ?_⟩
  rw [sumL_perm (perm_range h1 h2)]
  exact sumL_sub List.filter_sublist hf
theorem sumL_all {f : Nat → Int} {l : List Nat} {n : Nat} (h1 : l.Nodup) (h2 : ∀ i ∈ l, i < n) (h3 : ∀ i, i < n → i ∈ l) : sumL f l = sumL f (List.range n) := by
  refine sumL_perm ((List.perm_ext_iff_of_nodup h1 List.nodup_range).2 fun i => ?_)
  rw [List.mem_range]
  exact ⟨h2 i, h3 i⟩
theorem poOpen_ct (gr ga : Nat) (left : Int) (st : Sr) (hw : ∀ s ∈ st, Wf s) (hu : ∀ s ∈ st, Eu s) (hb : openS st ≤ 18446744073709551615) : Ct Tryz.prog 15 #[.pointer (some ⟨gr, 0, none⟩)] (fun W => rwF gr ga left st W ∧ MkA st W) (fun _ : Unit => .int .u64 (openS st)) Tt (fun _ _ => True) := by
  refine Ct.start Tryz.func15 rfl rfl (slots_of rfl slots1) (fun D w0 => Pw.facts (G' := [fun W => W.heap[gr]? = some (row [.map (some ga), .int .u64 left] 61), fun W => W.heap[ga]? = some (mapO (mP (eP (st.map Prod.fst)))), AllEnt st, MkA st]) (fun w h => allCons (fact0 h).1.1 (allCons (fact0 h).1.2.1 (allCons (fact0 h).1.2.2 (allCons (fact0 h).2 allNil)))) ?_)
  have hml : (mP (eP (st.map Prod.fst))).length = st.length := by show (List.map _ (List.map _ (List.map _ st))).length = _; simp
  repeat (first | refine Pw.runs ?_ | refine Pw.list (Pw.box rfl rfl rfl rfl (fun _ => ?_)) | refine Pw.list (Pw.alloc rfl rfl rfl rfl rfl (fun _ => ?_)))
  refine Pw.list (Pw.rangeM (m := mP (eP (st.map Prod.fst))) rfl rfl (fun w hs => fact1 hs.all) rfl rfl (fun gi => ?_))
  repeat (first | refine Pw.runs ?_ | refine Pw.list (Pw.box rfl rfl rfl rfl (fun _ => ?_)) | refine Pw.list (Pw.alloc rfl rfl rfl rfl rfl (fun _ => ?_)))
  refine Pw.loopJ (σ := List Nat) (fun l => l.Nodup ∧ ∀ i ∈ l, i < st.length) (fun l => ⟨[(3, .int .u64 (sumL (opAt st) l)), (15, .pointer (some ⟨gi, 0, none⟩))], [⟨gi, itO ga (mP (eP (st.map Prod.fst))).length l⟩], [fun W => W.heap[gr]? = some (row [.map (some ga), .int .u64 left] 61), fun W => W.heap[ga]? = some (mapO (mP (eP (st.map Prod.fst)))), AllEnt st, MkA st]⟩) (fun l => st.length - l.length) [] ⟨List.nodup_nil, fun i hi => (by cases hi)⟩ (Pw.enter ⟨rfl, rfl, trivial⟩ (fun w h => h)) ?_
  rintro l ⟨hl1, hl2⟩
  dsimp only at hl1 hl2 ⊢
  repeat (first | refine Pw.runs ?_ | refine Pw.list (Pw.box rfl rfl rfl rfl (fun _ => ?_)) | refine Pw.list (Pw.alloc rfl rfl rfl rfl rfl (fun _ => ?_)))
  refine Pw.list (Pw.nextM (m := mP (eP (st.map Prod.fst))) (l := l) rfl (fun w hs => fact1 hs.all) (fun i => .head) rfl rfl (fun hall => ?_) (fun i k v hm hil => ?_))
  · rw [hml] at hall
    have e : sumL (opAt st) l = openS st := sumL_all hl1 hl2 hall
    rw [e]
    repeat (first | refine Pw.runs ?_ | refine Pw.list (Pw.box rfl rfl rfl rfl (fun _ => ?_)) | refine Pw.list (Pw.alloc rfl rfl rfl rfl rfl (fun _ => ?_)))
    exact Pw.ret_ (x := ()) (.tmp rfl .nil) rfl trivial (fun w h => trivial)
  · have hi : i < st.length := by rw [← hml]; exact (List.getElem?_eq_some_iff.1 hm).1
    obtain ⟨s, hs, hsm⟩ := get_at hi
    have hv : k = s.1.x.id ∧ v = .pointer (some ⟨s.1.go, 0, none⟩) := by
      have h1 : (mP (eP (st.map Prod.fst)))[i]? = some (s.1.x.id, .pointer (some ⟨s.1.go, 0, none⟩)) := by
        show (List.map _ (eP (st.map Prod.fst)))[i]? = _
        rw [List.getElem?_map, eP_get hs]; rfl
      rw [hm] at h1
      exact Prod.mk.inj (Option.some.inj h1)
    obtain ⟨rfl, rfl⟩ := hv
    have hwf := hw s hsm
    have heu := hu s hsm
    have hat : opAt st i = opE s := by unfold opAt; rw [hs]
    have hl1' : (l ++ [i]).Nodup := List.nodup_append.2 ⟨hl1, by simp, fun a ha b hb => by rw [List.mem_singleton.1 hb]; exact fun e => hil (by rw [← e]; exact ha)⟩
    have hl2' : ∀ j ∈ l ++ [i], j < st.length := fun j hj => by
      rcases List.mem_append.1 hj with hj | hj
      · exact hl2 j hj
      · rw [List.mem_singleton.1 hj]; exact hi
    have hp0 := sumL_part (opAt_nn hu) hl1 hl2
    have hp1 := sumL_part (opAt_nn hu) hl1' hl2'
    rw [sumL_snoc, hat] at hp1
    have hb' : sumL (opAt st) (List.range st.length) ≤ 18446744073709551615 := hb
    have hll : l.length < st.length := by
      have h9 := (perm_range hl1' hl2').length_eq
      have := List.length_filter_le (fun j => decide (j ∈ l ++ [i])) (List.range st.length)
      rw [List.length_append, List.length_singleton] at h9
      rw [List.length_range] at this
      omega
    repeat (first | refine Pw.runs ?_ | refine Pw.list (Pw.box rfl rfl rfl rfl (fun _ => ?_)) | refine Pw.list (Pw.alloc rfl rfl rfl rfl rfl (fun _ => ?_)))
    refine Pw.list (Pw.entryM (m := mP (eP (st.map Prod.fst))) (l := l) rfl (fun w hs => fact1 hs.all) (.head _) hm rfl rfl ?_)
    refine Pw.facts (G' := [fun W => W.heap[gr]? = some (row [.map (some ga), .int .u64 left] 61), fun W => W.heap[ga]? = some (mapO (mP (eP (st.map Prod.fst)))), AllEnt st, MkA st, fun W => W.heap[s.1.go]? = some (row (entV s.1) 67)]) (fun w h => allCons (fact0 h) (allCons (fact1 h) (allCons (fact2 h) (allCons (fact3 h) (allCons ((fact2 h) s hsm).1 allNil))))) ?_
    repeat (first | refine Pw.runs ?_ | refine Pw.list (Pw.box rfl rfl rfl rfl (fun _ => ?_)) | refine Pw.list (Pw.alloc rfl rfl rfl rfl rfl (fun _ => ?_)))
    obtain ⟨⟨x, pg, zp, bu, ⟨zA, zc⟩, go, gm, gb⟩, bs⟩ := s
    refine Pw.loopJ (σ := Nat) (fun j => j ≤ bu.length) (fun j => ⟨[(3, .int .u64 (sumL (opAt st) l + opT (⟨x, pg, zp, bu, (zA, zc), go, gm, gb⟩, bs) j)), (5, .pointer (some ⟨go, 0, none⟩)), (15, .pointer (some ⟨gi, 0, none⟩)), (23, .slice zA bu.length zc), (24, .int .i64 bu.length), (25, .int .i64 j)], [⟨gi, itO ga (mP (eP (st.map Prod.fst))).length (l ++ [i])⟩], [fun W => W.heap[gr]? = some (row [.map (some ga), .int .u64 left] 61), fun W => W.heap[ga]? = some (mapO (mP (eP (st.map Prod.fst)))), AllEnt st, MkA st, fun W => W.heap[go]? = some (row (entV ⟨x, pg, zp, bu, (zA, zc), go, gm, gb⟩) 67)]⟩) (fun j => bu.length - j) 0 (Nat.zero_le _) (Pw.enter ⟨by show some _ = some (Value.int .u64 (sumL (opAt st) l + 0)); rw [Int.add_zero], rfl, rfl, rfl, rfl, rfl, trivial⟩ (fun w h => h)) ?_
    rintro j hj
    dsimp only at hj ⊢
    have hbl : bu.length = pg.length := hwf.b
    have hpn : pg.length ≤ 4096 := hwf.n
    repeat (first | refine Pw.runs ?_ | refine Pw.list (Pw.box rfl rfl rfl rfl (fun _ => ?_)) | refine Pw.list (Pw.alloc rfl rfl rfl rfl rfl (fun _ => ?_)))
    refine Pw.condD rfl (fun c5 => ?_) (fun c5 => ?_)
    · have hj0 : (0 : Int) ≤ (j : Int) := Int.natCast_nonneg j
      obtain ⟨b, hbj, hbm⟩ := get_at (show j < bu.length by omega)
      have hT := opT_le heu (k := j) (m := bu.length) hj
      have hT2 := opT_le heu (k := j + 1) (m := bu.length) (by omega)
      have hE : opE (⟨x, pg, zp, bu, (zA, zc), go, gm, gb⟩, bs) = opT (⟨x, pg, zp, bu, (zA, zc), go, gm, gb⟩, bs) bu.length := rfl
      have hsn := opT_succ (⟨x, pg, zp, bu, (zA, zc), go, gm, gb⟩, bs) j
      rw [hsn] at hT2
      have hrdb := get_rd hbj
      refine Pw.use (p := zA.isSome = true) (fun w h => ((fact2 h) _ hsm).2.2.1.has hj0 c5) (fun hA => ?_)
      obtain ⟨zad, rfl⟩ := Option.isSome_iff_exists.1 hA
      repeat (first | refine Pw.runs ?_ | refine Pw.list (Pw.box rfl rfl rfl rfl (fun _ => ?_)) | refine Pw.list (Pw.alloc rfl rfl rfl rfl rfl (fun _ => ?_)))
      refine Pw.list (Pw.indexS rfl rfl rfl rfl hj0 c5 rfl rfl ?_)
      refine Pw.list (Pw.load1 rfl rfl (fun w hs => (((fact2 hs.all) _ hsm).2.2.1 : U1 bu (some zad, zc) w).cell hj0 c5) rfl rfl ?_)
      rw [hrdb]
      repeat (first | refine Pw.runs ?_ | refine Pw.list (Pw.box rfl rfl rfl rfl (fun _ => ?_)) | refine Pw.list (Pw.alloc rfl rfl rfl rfl rfl (fun _ => ?_)))
      have hpg := pd_get (s := (⟨x, pg, zp, bu, (some zad, zc), go, gm, gb⟩, bs)) (i := j) (by show j < pg.length; omega)
      have hh := mkHas_ct gm gb (pdOf (⟨x, pg, zp, bu, (some zad, zc), go, gm, gb⟩, bs)) bs hwf.mk_ (by rw [pd_len]; exact hpn) (j : Int)
      rw [decide_eq_true hj0, Bool.true_and, Int.toNat_natCast, hpg, Option.getD_some, pd_len] at hh
      refine Pw.list (Pw.call hh rfl rfl rfl (by kernel_rfl) rfl rfl (fun w h => ⟨((fact2 h) _ hsm).2.2.2, (fact3 h) _ hsm⟩) ?_)
      intro _ _
      cases hpb : paidB (⟨x, pg, zp, bu, (some zad, zc), go, gm, gb⟩, bs) j
      · have hI : opI (⟨x, pg, zp, bu, (some zad, zc), go, gm, gb⟩, bs) j = b := by unfold opI; rw [hpb, if_neg Bool.false_ne_true]; show (bu[j]?).getD 0 = b; rw [hbj]; rfl
        rw [hI] at hsn hT2
        repeat (first | refine Pw.runs ?_ | refine Pw.list (Pw.box rfl rfl rfl rfl (fun _ => ?_)) | refine Pw.list (Pw.alloc rfl rfl rfl rfl rfl (fun _ => ?_)))
        refine Pw.re (d := 3) (v' := .int .u64 (sumL (opAt st) l + opT (⟨x, pg, zp, bu, (some zad, zc), go, gm, gb⟩, bs) (j + 1))) rfl (congrArg (Value.int .u64) (by rw [hsn, ← Int.add_assoc]; exact wu (by omega) (by omega))) ?_
        refine Pw.re (d := 25) (v' := .int .i64 ((j + 1 : Nat) : Int)) rfl (congrArg (Value.int .i64) (i64s (n := 100000) (by omega) (by omega))) ?_
        exact Pw.again (j + 1) (by show j + 1 ≤ bu.length; omega) (by show bu.length - (j + 1) < bu.length - j; omega) ⟨rfl, rfl, rfl, rfl, rfl, rfl, trivial⟩ rfl (fun w h => allTail h)
      · have hI : opI (⟨x, pg, zp, bu, (some zad, zc), go, gm, gb⟩, bs) j = 0 := by unfold opI; rw [hpb, if_pos rfl]
        rw [hI, Int.add_zero] at hsn
        repeat (first | refine Pw.runs ?_ | refine Pw.list (Pw.box rfl rfl rfl rfl (fun _ => ?_)) | refine Pw.list (Pw.alloc rfl rfl rfl rfl rfl (fun _ => ?_)))
        refine Pw.re (d := 25) (v' := .int .i64 ((j + 1 : Nat) : Int)) rfl (congrArg (Value.int .i64) (i64s (n := 100000) (by omega) (by omega))) ?_
        exact Pw.again (j + 1) (by show j + 1 ≤ bu.length; omega) (by show bu.length - (j + 1) < bu.length - j; omega) (by dsimp only; rw [hsn]; exact ⟨rfl, rfl, rfl, rfl, rfl, rfl, trivial⟩) rfl (fun w h => allTail h)
    · obtain rfl : j = bu.length := by omega
      repeat (first | refine Pw.runs ?_ | refine Pw.list (Pw.box rfl rfl rfl rfl (fun _ => ?_)) | refine Pw.list (Pw.alloc rfl rfl rfl rfl rfl (fun _ => ?_)))
      exact Pw.again (l ++ [i]) ⟨hl1', hl2'⟩ (by show st.length - (l ++ [i]).length < st.length - l.length; rw [List.length_append, List.length_singleton]; omega) ⟨by show some _ = some _; rw [sumL_snoc, hat]; rfl, rfl, trivial⟩ rfl (fun w h => allCons (fact0 h) (allCons (fact1 h) (allCons (fact2 h) (allCons (fact3 h) allNil))))
end Go.Proofs.Wk
/- Rewards: plain facts of a reward that New made. -/
namespace Go.Proofs.Wk
open Go.RowKit
set_option maxRecDepth 100000
set_option maxHeartbeats 4000000
set_option linter.unusedVariables false
set_option linter.unusedSimpArgs false
theorem newErr_ok {xs : List Ex} {ps : List Int} {size : Int} (h : newErr xs ps size = 0) : 1 ≤ size ∧ size ≤ 32 ∧ ps.length = xs.length ∧ okX xs = true := by
  unfold newErr at h
  split at h
  · cases h
  · next hn =>
    simp only [not_or] at hn
    obtain ⟨h1, h2, h3, h4⟩ := hn
    exact ⟨by omega, by omega, by omega, by simpa using h4⟩
theorem okX_ok {xs : List Ex} (h : okX xs = true) : (∀ x ∈ xs, formX x = true) ∧ (xs.map Ex.id).Nodup := by
  unfold okX at h
  rw [Bool.and_eq_true, List.all_eq_true, decide_eq_true_eq] at h
  exact h
theorem new_ex {k : Nat} {a : Int} {xs : List Ex} {ps : List Int} {st : Sr} (h : NewOk k a xs ps xs.length st) : st.map (fun s => s.1.x) = xs := by
  refine List.ext_getElem (by rw [List.length_map, h.1]) fun i h1 h2 => ?_
  rw [List.length_map] at h1
  obtain ⟨x, sh, hx, _, hE⟩ := h.2 i _ (List.getElem?_eq_getElem h1)
  rw [List.getElem_map, hE.ex]
  rw [List.getElem?_eq_getElem h2] at hx
  exact (Option.some.inj hx).symm
theorem new_ids {k : Nat} {a : Int} {xs : List Ex} {ps : List Int} {st : Sr} (h : NewOk k a xs ps xs.length st) (ho : okX xs = true) : (idsS st).Nodup := by
  have : idsS st = xs.map Ex.id := by rw [← new_ex h, List.map_map]; rfl
  rw [this]
  exact (okX_ok ho).2
theorem page_le {x : Ex} {k : Nat} : ∀ p ∈ pagesS x k, p.length ≤ x.oth.length + 1 := by
  intro p hp
  unfold pagesS at hp
  rcases List.mem_cons.1 hp with rfl | hp
  · rw [List.length_cons, List.length_take, srt_len]; omega
  · unfold chunks at hp
    obtain ⟨i, _, rfl⟩ := List.mem_map.1 hp
    unfold chunkAt
    simp only [List.length_take, List.length_drop, srt_len]
    omega
theorem pages_le {x : Ex} {k : Nat} (hk : 0 < k) : (pagesS x k).length ≤ x.oth.length + 1 := by
  rw [pages_len hk]
  have := nCh_le (n := x.oth.length) hk
  omega
/-- What New's entries are. -/
structure Ne (k : Nat) (x : Ex) (sh : Int) (s : Ent × List Int) : Prop where
  e : EntB k x sh s
  wf : Wf s
  eu : Eu s
  fr : ∀ i, i < s.1.pg.length → paidB s i = false
  sh : U64 sh
  l : s.1.pg.length = (pagesS x k).length
theorem ne_of {k : Nat} {x : Ex} {sh : Int} {s : Ent × List Int} (hk : 0 < k) (hx : ExW x) (hl : x.oth.length ≤ 1000) (hf : formX x = true) (hs : U64 sh) (h : EntB k x sh s) : Ne k x sh s := by
  have hpl : s.1.pg.length = (pagesS x k).length := by rw [← h.pg, List.length_map]
  have hpl2 := pages_le (x := x) hk
  have hbl : s.1.bu.length = s.1.pg.length := by rw [h.bu, hpl]; unfold bud1; rw [spF_len, List.length_map]
  have hmk := mk_new s.1.pg.length
  have htu : ∀ y ∈ (pagesS x k).map (fun p => (sumM (stk p)).1), U64 y := fun y hy => by
    obtain ⟨p, hp, rfl⟩ := List.mem_map.1 hy
    exact sumM_u _ (stk_u hx p hp)
  refine ⟨h, ⟨by rw [h.b]; simp, fun y hy => hmk.r y (by rw [← h.b]; exact hy), by omega, hbl⟩, ⟨?_, fun b hb => ?_, fun p hp => ?_⟩, fun i hi => ?_, hs, hpl⟩
  · rw [h.ex]
    unfold formX at hf
    rw [Bool.and_eq_true, decide_eq_true_eq] at hf
    exact ⟨hx.com.1, hf.2⟩
  · rw [h.bu] at hb
    exact ((spF_sum hs htu).2.1 b hb).1
  · have hm : p.1 ∈ pagesS x k := by rw [← h.pg]; exact List.mem_map_of_mem hp
    exact ⟨by have := page_le p.1 hm; omega, stk_u hx p.1 hm⟩
  · unfold paidB
    rw [h.b]
    exact hmk.h i false (by rw [List.getElem?_replicate, if_pos hi])
theorem new_ne {size : Int} {a : Int} {xs : List Ex} {ps : List Int} {st : Sr} (h : NewOk size.toNat a xs ps xs.length st) (he : newErr xs ps size = 0) (ha : U64 a) (hX : XW xs) (hp : ∀ p ∈ ps, U64 p) {i : Nat} {s : Ent × List Int} (hs : st[i]? = some s) : ∃ x sh, xs[i]? = some x ∧ (shL a xs ps)[i]? = some sh ∧ Ne size.toNat x sh s := by
  obtain ⟨x, sh, hx, hsh, hE⟩ := h.2 i s hs
  obtain ⟨h1, _, _, h4⟩ := newErr_ok he
  have hm := List.mem_of_getElem? hx
  exact ⟨x, sh, hx, hsh, ne_of (by omega) (hX.w x hm) (hX.l x hm) ((okX_ok h4).1 x hm) ((spF_sum ha (cntL_u (xs := xs) hp)).2.1 sh (List.mem_of_getElem? hsh)).1 hE⟩
theorem new_all {size : Int} {a : Int} {xs : List Ex} {ps : List Int} {st : Sr} (h : NewOk size.toNat a xs ps xs.length st) (he : newErr xs ps size = 0) (ha : U64 a) (hX : XW xs) (hp : ∀ p ∈ ps, U64 p) : (∀ s ∈ st, Wf s) ∧ (∀ s ∈ st, Eu s) := by
  constructor
  · intro s hs
    obtain ⟨i, hi⟩ := List.getElem?_of_mem hs
    obtain ⟨_, _, _, _, hN⟩ := new_ne h he ha hX hp hi
    exact hN.wf
  · intro s hs
    obtain ⟨i, hi⟩ := List.getElem?_of_mem hs
    obtain ⟨_, _, _, _, hN⟩ := new_ne h he ha hX hp hi
    exact hN.eu
/-! ### The small input -/
abbrev awX : Ex := ⟨1, 0, 5, [], (none, 0)⟩
theorem aw_w : XW [awX] := ⟨fun x hx => by
  rw [List.mem_singleton.1 hx]
  exact ⟨by unfold U64; decide, by unfold U64; decide, fun p hp => by cases hp⟩, fun x hx => by rw [List.mem_singleton.1 hx]; simp, by simp⟩
theorem aw_err : newErr [awX] [1] 3 = 0 := by decide
theorem aw_pages : pagesS awX 3 = [[(1, 5)]] := by unfold pagesS srt; simp only [awX, List.mergeSort]; rfl
theorem aw_bud (st : Sr) (h : NewOk 3 10 [awX] [1] 1 st) : (idsS st).Nodup ∧ (∀ s ∈ st, Wf s) ∧ budE st 1 0 = some 10 := by
  have h' : NewOk (3 : Int).toNat 10 [awX] [1] [awX].length st := h
  have hU : U64 10 := by unfold U64; decide
  have hp : ∀ p ∈ [(1 : Int)], U64 p := fun p hp => by rw [List.mem_singleton.1 hp]; unfold U64; decide
  have hi := new_ids h' (newErr_ok aw_err).2.2.2
  obtain ⟨h1, h2⟩ := new_all h' aw_err hU aw_w hp
  refine ⟨hi, h1, ?_⟩
  obtain ⟨s, hs, hsm⟩ := get_at (show 0 < st.length by rw [h.1]; decide)
  obtain ⟨x, sh, hx, hsh, hN⟩ := new_ne h' aw_err hU aw_w hp hs
  obtain rfl : awX = x := Option.some.inj hx
  have e1 : sh = 10 := by
    have : (shL 10 [awX] [1])[0]? = some (10 : Int) := by decide
    rw [this] at hsh
    exact (Option.some.inj hsh).symm
  subst e1
  have hl : s.1.pg.length = 1 := by rw [hN.l]; show (pagesS awX 3).length = 1; rw [aw_pages]; rfl
  have hf : fnd st 1 0 = some 0 := fnd_at hi hs (by rw [hN.e.ex]) (by omega) (by rw [hl]; decide)
  unfold budE
  rw [hf, Option.bind_some, hs, Option.bind_some, hN.e.bu]
  show (bud1 3 10 awX).1[0]? = some 10
  unfold bud1
  rw [aw_pages]
  decide
end Go.Proofs.Wk
/- The laws of rewards: helpers walked. -/
namespace Go.Proofs.Wk
open Go.RowKit
set_option maxRecDepth 100000
set_option maxHeartbeats 8000000
attribute [local irreducible] Pw OpG
set_option linter.unusedVariables false
set_option linter.unusedSimpArgs false
abbrev cellsX (l : List Ex) : List Value := l.flatMap encX
theorem cellsX_snoc (l : List Ex) (x : Ex) : cellsX (l ++ [x]) = cellsX l ++ encX x := by unfold cellsX; rw [List.flatMap_append]; simp
theorem encX_one (x : Ex) : ∀ u ∈ encX x, u.oneCell' = true := by
  intro u hu
  simp only [encX, List.mem_cons, List.not_mem_nil, or_false] at hu
  rcases hu with rfl | rfl | rfl | rfl <;> rfl
theorem poTheirs_ct (l : List Ex) (x : Option Addr × Nat) (hl : l.length ≤ 1000) : Ct Tryz.prog 7 #[xsV l x] (XS l x) (fun z : Option Addr × Nat => xsV l z) Tt (fun z => XS l z) := by
  obtain ⟨A, c⟩ := x
  have htop : l.length ≤ 9223372036854775807 := by omega
  refine Ct.start Tryz.func7 rfl rfl (slots_of rfl slots1) (fun D w0 => ?_)
  repeat (first | refine Pw.runs ?_ | refine Pw.list (Pw.box rfl rfl rfl rfl (fun _ => ?_)) | refine Pw.list (Pw.alloc rfl rfl rfl rfl rfl (fun _ => ?_)))
  refine Pw.loopJ (σ := Nat × Gr) (fun t => t.1 ≤ l.length ∧ gOk t.2 (cellsX (l.take t.1)) t.1 4) (fun t => ⟨[(0, .slice A l.length c), (3, gv t.2 t.1), (6, .int .i64 l.length), (7, .int .i64 t.1)], gL1 t.2 (cellsX (l.take t.1)) 57, [XS l (A, c)]⟩) (fun t => l.length - t.1) (0, none) ⟨Nat.zero_le _, rfl, rfl⟩ (Pw.enter ⟨rfl, rfl, rfl, rfl, trivial⟩ (fun _ h => h)) ?_
  rintro ⟨i, q⟩ ⟨hi, hq⟩
  dsimp only at hi hq ⊢
  repeat (first | refine Pw.runs ?_ | refine Pw.list (Pw.box rfl rfl rfl rfl (fun _ => ?_)) | refine Pw.list (Pw.alloc rfl rfl rfl rfl rfl (fun _ => ?_)))
  refine Pw.condD rfl (fun c3 => ?_) (fun c3 => ?_)
  · obtain ⟨s, hs, hm⟩ := get_at (show i < l.length by omega)
    repeat (first | refine Pw.runs ?_ | refine Pw.list (Pw.box rfl rfl rfl rfl (fun _ => ?_)) | refine Pw.list (Pw.alloc rfl rfl rfl rfl rfl (fun _ => ?_)))
    refine Pw.list (Pw.index rfl rfl rfl rfl (Int.natCast_nonneg i) c3 (fun w h => (hv w h : XS l (A, c) w).has (Int.natCast_nonneg i) c3) rfl rfl ?_)
    rintro ad rfl
    refine Pw.list (Pw.loadR s rfl inferInstance rfl (by rw [Int.toNat_natCast]; exact hs) (by kernel_rfl) rfl rfl ?_)
    refine Pw.re (d := 14) (v' := exV s) rfl rfl ?_
    repeat (first | refine Pw.runs ?_ | refine Pw.list (Pw.box rfl rfl rfl rfl (fun _ => ?_)) | refine Pw.list (Pw.alloc rfl rfl rfl rfl rfl (fun _ => ?_)))
    refine Pw.list (Pw.call (pTheirs_ct s) rfl rfl rfl (by kernel_rfl) rfl rfl (fun w h => trivial) ?_)
    intro _ _
    refine Pw.list (Pw.lit14 rfl rfl rfl rfl rfl rfl rfl rfl rfl (fun g1 => freeHead ?_))
    refine Pw.list (Pw.push (s := q) (m := i) (cells := cellsX (l.take i)) (news := encX s) (L0 := []) rfl rfl rfl rfl rfl rfl rfl hq rfl (encX_one s) (fun w hs j u hu => by
      have h1 : w.heap[g1]? = some (row (encX s) 57) := fact0 hs.all
      rw [add_none, cell_of_blk h1]
      simpa using hu) (by omega) (by simp only [maxLen]; omega) (by show (i + 1) * 48 ≤ _; omega) rfl rfl (fun q' hq' => ?_))
    rw [← cellsX_snoc, ← take_snoc hs] at hq' ⊢
    repeat (first | refine Pw.runs ?_ | refine Pw.list (Pw.box rfl rfl rfl rfl (fun _ => ?_)) | refine Pw.list (Pw.alloc rfl rfl rfl rfl rfl (fun _ => ?_)))
    refine Pw.re (d := 7) (v' := .int .i64 ((i + 1 : Nat) : Int)) rfl (congrArg (Value.int .i64) (i64s (n := 100000) (by omega) (by omega))) ?_
    exact Pw.again (i + 1, q') ⟨by omega, hq'⟩ (by show l.length - (i + 1) < l.length - i; omega) ⟨rfl, rfl, rfl, rfl, trivial⟩ rfl (fun w h => allCons (hv w h) allNil)
  · repeat (first | refine Pw.runs ?_ | refine Pw.list (Pw.box rfl rfl rfl rfl (fun _ => ?_)) | refine Pw.list (Pw.alloc rfl rfl rfl rfl rfl (fun _ => ?_)))
    obtain rfl : i = l.length := by omega
    rw [List.take_length] at hq ⊢
    refine Pw.freeG hq (fun A' c' e hc => ?_)
    rw [e]
    exact Pw.ret_ (x := (A', c')) (.tmp rfl .nil) rfl trivial (fun w h => rows_of_cells (fun _ _ => rfl) (fun y hy => by
      obtain ⟨j, hj⟩ := List.getElem?_of_mem hy
      have h1 : XS l (A, c) w := (hv w h)
      obtain ⟨ad, cs, e1, _, ⟨_, h2⟩, _⟩ := h1.2.2 j y hj
      exact h2) hc (by simp only [maxLen]; omega) (by omega) (fact0 h))
theorem poFew_ct (l : List Ex) (x : Option Addr × Nat) : Ct Tryz.prog 5 #[xsV l x] (XS l x) (fun r : Bool => .bool r) (fun r => r = true → l.length ≤ 40 ∧ ∀ s ∈ l, s.oth.length ≤ 60) (fun _ _ => True) := by
  obtain ⟨A, c⟩ := x
  refine Ct.start Tryz.func5 rfl rfl (slots_of rfl slots1) (fun D w0 => ?_)
  refine Pw.use (p := l.length ≤ maxLen) (fun w h => (fact0 h).top) (fun htop => ?_)
  have htop := top63 htop
  repeat (first | refine Pw.runs ?_ | refine Pw.list (Pw.box rfl rfl rfl rfl (fun _ => ?_)) | refine Pw.list (Pw.alloc rfl rfl rfl rfl rfl (fun _ => ?_)))
  refine Pw.loopJ (σ := Nat) (fun i => i ≤ l.length ∧ i ≤ 40 ∧ ∀ s ∈ l.take i, s.oth.length ≤ 60) (fun i => ⟨[(0, .slice A l.length c), (5, .int .i64 l.length), (6, .int .i64 i)], [], [XS l (A, c)]⟩) (fun i => l.length - i) 0 ⟨Nat.zero_le _, by omega, fun s hs => by simp at hs⟩ (Pw.enter ⟨rfl, rfl, rfl, trivial⟩ (fun _ h => h)) ?_
  rintro i ⟨hi, hm, hs⟩
  dsimp only at hi hm hs ⊢
  repeat (first | refine Pw.runs ?_ | refine Pw.list (Pw.box rfl rfl rfl rfl (fun _ => ?_)) | refine Pw.list (Pw.alloc rfl rfl rfl rfl rfl (fun _ => ?_)))
  refine Pw.condD rfl (fun c3 => ?_) (fun c3 => ?_)
  · obtain ⟨s, hsi, hsm⟩ := get_at (show i < l.length by omega)
    repeat (first | refine Pw.runs ?_ | refine Pw.list (Pw.box rfl rfl rfl rfl (fun _ => ?_)) | refine Pw.list (Pw.alloc rfl rfl rfl rfl rfl (fun _ => ?_)))
    refine Pw.split 11 rfl (fun c4 => ?_) (fun c4 => ?_)
    · repeat (first | refine Pw.runs ?_ | refine Pw.list (Pw.box rfl rfl rfl rfl (fun _ => ?_)) | refine Pw.list (Pw.alloc rfl rfl rfl rfl rfl (fun _ => ?_)))
      exact Pw.ret_ (x := false) (.tmp rfl .nil) rfl (fun e => by cases e) (fun w h => by trivial)
    repeat (first | refine Pw.runs ?_ | refine Pw.list (Pw.box rfl rfl rfl rfl (fun _ => ?_)) | refine Pw.list (Pw.alloc rfl rfl rfl rfl rfl (fun _ => ?_)))
    refine Pw.list (Pw.index rfl rfl rfl rfl (Int.natCast_nonneg i) c3 (fun w h => (hv w h : XS l (A, c) w).has (Int.natCast_nonneg i) c3) rfl rfl ?_)
    rintro ad rfl
    refine Pw.list (Pw.fieldS rfl rfl rfl rfl rfl rfl rfl ?_)
    refine Pw.list (Pw.loadF s rfl inferInstance rfl (by rw [Int.toNat_natCast]; exact hsi) rfl rfl rfl rfl ?_)
    repeat (first | refine Pw.runs ?_ | refine Pw.list (Pw.box rfl rfl rfl rfl (fun _ => ?_)) | refine Pw.list (Pw.alloc rfl rfl rfl rfl rfl (fun _ => ?_)))
    refine Pw.condD rfl (fun c6 => ?_) (fun c6 => ?_)
    · repeat (first | refine Pw.runs ?_ | refine Pw.list (Pw.box rfl rfl rfl rfl (fun _ => ?_)) | refine Pw.list (Pw.alloc rfl rfl rfl rfl rfl (fun _ => ?_)))
      exact Pw.ret_ (x := false) (.tmp rfl .nil) rfl (fun e => by cases e) (fun w h => by trivial)
    repeat (first | refine Pw.runs ?_ | refine Pw.list (Pw.box rfl rfl rfl rfl (fun _ => ?_)) | refine Pw.list (Pw.alloc rfl rfl rfl rfl rfl (fun _ => ?_)))
    refine Pw.re (d := 6) (v' := .int .i64 ((i + 1 : Nat) : Int)) rfl (congrArg (Value.int .i64) (i64s (n := 100000) (by omega) (by omega))) ?_
    exact Pw.again (i + 1) ⟨by omega, by omega, fun t ht => by
      rw [take_snoc hsi] at ht
      rcases List.mem_append.1 ht with ht | ht
      · exact hs t ht
      · rw [List.mem_singleton.1 ht]; omega⟩ (by show l.length - (i + 1) < l.length - i; omega) ⟨rfl, rfl, rfl, trivial⟩ rfl (fun w h => allCons (hv w h) allNil)
  · repeat (first | refine Pw.runs ?_ | refine Pw.list (Pw.box rfl rfl rfl rfl (fun _ => ?_)) | refine Pw.list (Pw.alloc rfl rfl rfl rfl rfl (fun _ => ?_)))
    exact Pw.ret_ (x := true) (.tmp rfl .nil) rfl (fun _ => by
      rw [List.take_of_length_le (by omega)] at hs; exact ⟨by omega, hs⟩) (fun w h => by trivial)
theorem poAwake_ct : Ct Tryz.prog 4 #[] (fun _ => True) (fun _ : Unit => .bool true) Tt (fun _ _ => True) := by
  refine Ct.start Tryz.func4 rfl rfl (slots_of rfl slots0) (fun D w0 => ?_)
  repeat (first | refine Pw.runs ?_ | refine Pw.list (Pw.box rfl rfl rfl rfl (fun _ => ?_)) | refine Pw.list (Pw.alloc rfl rfl rfl rfl rfl (fun _ => ?_)))
  refine Pw.list (Pw.lit14 rfl rfl rfl rfl rfl rfl rfl rfl rfl (fun g1 => freeHead ?_))
  refine Pw.list (Pw.lit1 rfl rfl rfl rfl rfl rfl rfl rfl rfl (fun g2 => freeHead ?_))
  refine Pw.list (Pw.callB (L0 := []) (poNew_ct 10 [awX] (some ⟨g1, 0, none⟩, 1) [1] (some ⟨g2, 0, none⟩, 1) 3 (by unfold U64; decide) aw_w (fun p hp => by rw [List.mem_singleton.1 hp]; unfold U64; decide) (by omega)) rfl rfl rfl rfl (by kernel_rfl) rfl rfl (fun w h => ⟨rows_of_row (l := [awX]) (ex := []) (by rw [List.append_nil]; exact fact1 h) (fun y hy => rfl) (fun y hy => by rw [List.mem_singleton.1 hy]; exact Rows.nil _ _ _ _ _) (Nat.le_refl _) (by simp [maxLen]) (by omega), ints_of_cells (Nat.le_refl _) (by simp [maxLen]) (fun j u hu => ⟨_, rfl, by rw [add_none, cell_of_blk (fact0 h)]; simpa using hu⟩)⟩) ?_)
  rintro (_ | ⟨gr, ga, st⟩) hR
  · exact absurd aw_err hR
  obtain ⟨hi, hw, hb⟩ := aw_bud st hR.2
  dsimp only
  repeat (first | refine Pw.runs ?_ | refine Pw.list (Pw.box rfl rfl rfl rfl (fun _ => ?_)) | refine Pw.list (Pw.alloc rfl rfl rfl rfl rfl (fun _ => ?_)))
  have hc := poBudget_ct gr ga (leftTo 3 10 [awX] [1] 1) st 1 0 hi hw
  rw [hb] at hc
  refine Pw.list (Pw.call hc rfl rfl rfl (by kernel_rfl) rfl rfl (fun w h => fact0 h) ?_)
  intro _ _
  repeat (first | refine Pw.runs ?_ | refine Pw.list (Pw.box rfl rfl rfl rfl (fun _ => ?_)) | refine Pw.list (Pw.alloc rfl rfl rfl rfl rfl (fun _ => ?_)))
  exact Pw.ret_ (x := ()) (.tmp rfl .nil) rfl trivial (fun w h => by trivial)
end Go.Proofs.Wk
/- Payments of a page: plain. -/
namespace Go.Proofs.Wk
open Go.RowKit
set_option maxRecDepth 100000
set_option maxHeartbeats 4000000
set_option linter.unusedVariables false
set_option linter.unusedSimpArgs false
/-- What a stake gets of what is split. -/
def amOf (b com : Int) (pg : List Pt) (n : Int) : Int := if 0 < lsum (stk pg) ∧ lsum (stk pg) ≤ 18446744073709551615 then (b - comE b com) * n / lsum (stk pg) else 0
theorem com_le {b com : Int} (hb : U64 b) (h0 : 0 ≤ com) (h1 : com ≤ 1000000000) : 0 ≤ comE b com ∧ comE b com ≤ b := part_le hb.1 h0 (by omega) h1
/-- A page's payments and dust. -/
structure PayOk (v b com : Int) (pg : List Pt) (P : List Pt) (d : Int) : Prop where
  eq : P = (v, comE b com) :: pg.map (fun q => (q.1, amOf b com pg q.2))
  len : P.length = pg.length + 1
  d0 : 0 ≤ d ∧ d ≤ b
  s : d + lsum (stk P) = b
  u : ∀ n ∈ stk P, U64 n
theorem PayOk.at0 {v b com : Int} {pg P : List Pt} {d : Int} (h : PayOk v b com pg P d) : P[0]? = some (v, comE b com) := by rw [h.eq]; rfl
theorem PayOk.at {v b com : Int} {pg P : List Pt} {d : Int} (h : PayOk v b com pg P d) {j : Nat} {q : Pt} (hq : pg[j]? = some q) : P[j + 1]? = some (q.1, amOf b com pg q.2) := by
  rw [h.eq, List.getElem?_cons_succ, List.getElem?_map, hq]; rfl
theorem PayOk.part {v b com : Int} {pg P : List Pt} {d : Int} (h : PayOk v b com pg P d) (m : Nat) : 0 ≤ d + lsum (stk (P.take m)) ∧ d + lsum (stk (P.take m)) ≤ b := by
  have e : stk (P.take m) = (stk P).take m := by unfold stk; rw [List.map_take]
  have h1 := lsum_take_le h.u m
  have h2 : 0 ≤ lsum ((stk P).take m) := lsum_nonneg fun n hn => h.u n (List.mem_of_mem_take hn)
  have := h.s
  have := h.d0
  rw [e]; omega
/-! ### One entry -/
theorem Eu.bs {e : Ent} {bs bs' : List Int} (h : Eu (e, bs)) : Eu (e, bs') := ⟨h.c, h.b, h.p⟩
end Go.Proofs.Wk
/- Paying page after page: plain. -/
namespace Go.Proofs.Wk
open Go.RowKit
set_option maxRecDepth 100000
set_option maxHeartbeats 4000000
set_option linter.unusedVariables false
set_option linter.unusedSimpArgs false
/-! ### The orders -/
/-! ### Budgets, left -/
def buT (st : Sr) (j : Nat) : Int := match st[j]? with | some s => lsum s.1.bu | none => 0
def buI (e : Ent) (p : Nat) : Int := (e.bu[p]?).getD 0
theorem sumL_get : ∀ (l : List Int) (k : Nat), k ≤ l.length → sumL (fun p => (l[p]?).getD 0) (List.range k) = lsum (l.take k) := by
  intro l k
  induction k with
  | zero => intro _; rfl
  | succ k ih =>
    intro hk
    obtain ⟨x, hx, _⟩ := get_at (show k < l.length by omega)
    rw [List.range_succ, sumL_snoc, ih (by omega), take_snoc hx, lsum_snoc, hx]; rfl
theorem buI_sum (e : Ent) : sumL (buI e) (List.range e.bu.length) = lsum e.bu := by
  have := sumL_get e.bu e.bu.length (Nat.le_refl _)
  rw [List.take_length] at this
  exact this
theorem new_total {size : Int} {a : Int} {xs : List Ex} {ps : List Int} {st : Sr} (h : NewOk size.toNat a xs ps xs.length st) (he : newErr xs ps size = 0) (ha : U64 a) (hX : XW xs) (hp : ∀ p ∈ ps, U64 p) : leftTo size.toNat a xs ps xs.length + sumL (buT st) (List.range st.length) = a := by
  obtain ⟨s1, s2, _, _⟩ := spF_sum ha (cntL_u (xs := xs) hp)
  have hsl : (shL a xs ps).length = xs.length := by unfold shL; rw [spF_len, cntL_len (newErr_ok he).2.2.1]
  have key : ∀ j, j ≤ xs.length → leftTo size.toNat a xs ps j + sumL (buT st) (List.range j) = (spF a (cntL xs ps)).2 + lsum ((shL a xs ps).take j) := by
    intro j
    induction j with
    | zero => intro _; unfold leftTo; simp [sumL, lsum]
    | succ j ih =>
      intro hj
      obtain ⟨s, hs, hsm⟩ := get_at (show j < st.length by rw [h.1]; omega)
      obtain ⟨x, sh, hx, hsh, hE⟩ := h.2 j s hs
      have hxm := List.mem_of_getElem? hx
      have hshU := (s2 sh (List.mem_of_getElem? hsh)).1
      have hbs := (spF_sum hshU (l := (pagesS x size.toNat).map (fun p => (sumM (stk p)).1)) (fun y hy => by
        obtain ⟨p, hp, rfl⟩ := List.mem_map.1 hy
        exact sumM_u _ (stk_u (hX.w x hxm) p hp))).1
      have hbs' : lsum (bud1 size.toNat sh x).1 + (bud1 size.toNat sh x).2 = sh := hbs
      have hb : buT st j = lsum (bud1 size.toNat sh x).1 := by unfold buT; rw [hs]; show lsum s.1.bu = _; rw [hE.bu]
      have := ih (by omega)
      rw [left_snoc hx hsh, List.range_succ, sumL_snoc, hb, take_snoc hsh, lsum_snoc]
      omega
  have h1 := key xs.length (Nat.le_refl _)
  rw [← hsl, List.take_length, hsl, ← h.1] at h1
  have h2 : lsum (shL a xs ps) + (spF a (cntL xs ps)).2 = a := s1
  rw [h.1] at h1 ⊢
  omega
/-! ### Paying -/
structure So (st0 st : Sr) (V : Nat → Nat → Prop) : Prop where
  f : st.map Prod.fst = st0.map Prod.fst
  w : ∀ s ∈ st, Wf s
  p : ∀ j s p, st[j]? = some s → p < s.1.pg.length → (paidB s p = true ↔ V j p)
theorem So.congr {st0 st : Sr} {V V' : Nat → Nat → Prop} (h : So st0 st V) (hv : ∀ j s p, st[j]? = some s → p < s.1.pg.length → (V j p ↔ V' j p)) : So st0 st V' :=
  ⟨h.f, h.w, fun j s p hs hp => (h.p j s p hs hp).trans (hv j s p hs hp)⟩
theorem So.at {st0 st : Sr} {V : Nat → Nat → Prop} (h : So st0 st V) {j : Nat} {e : Ent} {b0 : List Int} (he : st0[j]? = some (e, b0)) : ∃ bs, st[j]? = some (e, bs) := by
  have h1 : (st.map Prod.fst)[j]? = some e := by rw [h.f, List.getElem?_map, he]; rfl
  rw [List.getElem?_map] at h1
  cases hs : st[j]? with
  | none => rw [hs] at h1; cases h1
  | some s =>
    rw [hs] at h1
    obtain ⟨e', bs⟩ := s
    obtain rfl : e' = e := Option.some.inj h1
    exact ⟨bs, rfl⟩
theorem So.back {st0 st : Sr} {V : Nat → Nat → Prop} (h : So st0 st V) {j : Nat} {s : Ent × List Int} (hs : st[j]? = some s) : ∃ b0, st0[j]? = some (s.1, b0) := by
  have h1 : (st0.map Prod.fst)[j]? = some s.1 := by rw [← h.f, List.getElem?_map, hs]; rfl
  rw [List.getElem?_map] at h1
  cases h2 : st0[j]? with
  | none => rw [h2] at h1; cases h1
  | some t =>
    rw [h2] at h1
    obtain ⟨e', bs⟩ := t
    obtain rfl : e' = s.1 := Option.some.inj h1
    exact ⟨bs, rfl⟩
theorem So.ids {st0 st : Sr} {V : Nat → Nat → Prop} (h : So st0 st V) : idsS st = idsS st0 := by
  have e : ∀ l : Sr, idsS l = (l.map Prod.fst).map (fun e => e.x.id) := fun l => by rw [List.map_map]; rfl
  rw [e, e, h.f]
theorem So.len {st0 st : Sr} {V : Nat → Nat → Prop} (h : So st0 st V) : st.length = st0.length := by
  have := congrArg List.length h.f
  rwa [List.length_map, List.length_map] at this
theorem So.eu {st0 st : Sr} {V : Nat → Nat → Prop} (h : So st0 st V) (hu : ∀ s ∈ st0, Eu s) : ∀ s ∈ st, Eu s := by
  intro s hs
  obtain ⟨j, hj⟩ := List.getElem?_of_mem hs
  obtain ⟨b0, h0⟩ := h.back hj
  exact (hu _ (List.mem_of_getElem? h0)).bs
theorem So.rwF {st0 st : Sr} {V : Nat → Nat → Prop} (h : So st0 st V) {gr ga : Nat} {left : Int} {W : World} (hr : rwF gr ga left st0 W) : rwF gr ga left st W := by
  refine ⟨hr.1, by rw [h.f]; exact hr.2.1, fun s hs => ?_⟩
  obtain ⟨j, hj⟩ := List.getElem?_of_mem hs
  obtain ⟨b0, h0⟩ := h.back hj
  exact hr.2.2 (s.1, b0) (List.mem_of_getElem? h0)
end Go.Proofs.Wk
/- The law PhragmenSupports walked, but for its awake. -/
namespace Go.Proofs.Wk
open Go.RowKit
set_option maxRecDepth 100000
set_option maxHeartbeats 4000000
attribute [local irreducible] Pw OpG
set_option linter.unusedVariables false
set_option linter.unusedSimpArgs false
end Go.Proofs.Wk
/- Elections: times; lookups that tell whether there is one. -/
namespace Go.Proofs.Wk
open Go.RowKit
set_option maxRecDepth 100000
set_option maxHeartbeats 1000000
attribute [local irreducible] Pw OpG
set_option linter.unusedVariables false
set_option linter.unusedSimpArgs false
end Go.Proofs.Wk
/- Weights made whole: the insertion sort walked. -/
namespace Go.Proofs.Wk
open Go.RowKit
set_option maxRecDepth 100000
set_option maxHeartbeats 2000000
attribute [local irreducible] Pw OpG
set_option linter.unusedVariables false
set_option linter.unusedSimpArgs false
structure OnW (o : On) : Prop where
  m : Lm o.a ∧ Lm o.b
  l : o.a.length < 1048576 ∧ o.b.length < 1048576
end Go.Proofs.Wk
/- Weights made whole: the stable sort of at most twenty. -/
namespace Go.Proofs.Wk
open Go.RowKit
set_option maxRecDepth 100000
set_option maxHeartbeats 2000000
attribute [local irreducible] Pw OpG
set_option linter.unusedVariables false
set_option linter.unusedSimpArgs false
end Go.Proofs.Wk
/- Weights made whole: the insertion sort only orders. -/
namespace Go.Proofs.Wk
set_option linter.unusedVariables false
set_option linter.unusedSimpArgs false
end Go.Proofs.Wk
/- Weights made whole: the plain law. -/
namespace Go.Proofs.Wk
set_option linter.unusedVariables false
set_option linter.unusedSimpArgs false
def fr (x : Rat) : Rat := x - (x.floor : Rat)
def qAt (ws : List Rat) (i : Nat) : Rat := ws.getD i 0
def ahd (ws : List Rat) (i j : Nat) : Prop := fr (qAt ws j) < fr (qAt ws i) ∨ (fr (qAt ws i) = fr (qAt ws j) ∧ i < j)
/-- The places in the order of their rests, greater ones first, of alike ones the first. -/
structure Ord (ws : List Rat) (o : List Nat) : Prop where
  perm : o.Perm (List.range ws.length)
  pw : o.Pairwise (ahd ws)
theorem Ord.len {ws : List Rat} {o : List Nat} (h : Ord ws o) : o.length = ws.length := by rw [h.perm.length_eq, List.length_range]
/-! ### A weight's rest -/
theorem fr_nn (x : Rat) : 0 ≤ fr x := by unfold fr; have := Rat.floor_le x; grind
/-! ### The insertion sort orders -/
def kO (o : On) : Rat := rv o.a o.b
theorem rv_q {x : Rat} (h : 0 ≤ x) : rv (qn x) (qd x) = x := by
  unfold rv; rw [val_qn h, val_qd, Rat.num_divInt_den]
/-- The rests «as» they are made. -/
def OsOk (ws : List Rat) (os : List On) : Prop := os.length = ws.length ∧ ∀ (i : Nat) (o : On), os[i]? = some o → o.at_ = (i : Int) ∧ o.a = qn (fr (qAt ws i)) ∧ o.b = qd (fr (qAt ws i))
theorem OsOk.key {ws : List Rat} {os : List On} (h : OsOk ws os) {o : On} (ho : o ∈ os) : 0 ≤ o.at_ ∧ o.at_.toNat < ws.length ∧ o.a = qn (fr (qAt ws o.at_.toNat)) ∧ o.b = qd (fr (qAt ws o.at_.toNat)) ∧ kO o = fr (qAt ws o.at_.toNat) := by
  obtain ⟨i, hi⟩ := List.getElem?_of_mem ho
  obtain ⟨h1, h2, h3⟩ := h.2 i o hi
  have hlt := (List.getElem?_eq_some_iff.1 hi).1
  have e : o.at_.toNat = i := by omega
  rw [e]
  refine ⟨by omega, by rw [← h.1]; exact hlt, h2, h3, ?_⟩
  unfold kO; rw [h2, h3, rv_q (fr_nn _)]
/-! ### Sums -/
/-! ### One more -/
def flL (ws : List Rat) : List (List Int) := ws.map fun x => natL x.floor
end Go.Proofs.Wk
/- What layer 2 and its reference answer, of rational numbers. -/
namespace Go.Proofs.Wk
open Go.RowKit
set_option maxRecDepth 100000
set_option linter.unusedVariables false
set_option linter.unusedSimpArgs false
section
variable {x y : Rat} {m n : Nat} (hx : Sz m x) (hy : Sz n y) (u v : Z2)
include hx hy
end
/-- A weight that is formed is a number's fraction. -/
def rq (s : Rt) : Rat := rv s.a s.b
end Go.Proofs.Wk
/- Weights made whole: whole.Round walked. -/
namespace Go.Proofs.Wk
open Go.RowKit
set_option maxRecDepth 100000
set_option maxHeartbeats 4000000
attribute [local irreducible] Pw OpG
set_option linter.unusedVariables false
set_option linter.unusedSimpArgs false
end Go.Proofs.Wk
/- Weights made whole: whole.Round walked. -/
namespace Go.Proofs.Wk
open Go.RowKit
set_option maxRecDepth 100000
set_option maxHeartbeats 4000000
attribute [local irreducible] Pw OpG
set_option linter.unusedVariables false
set_option linter.unusedSimpArgs false
abbrev Nt := List Int × (Option Addr × Nat)
def encN (p : Nt) : List Value := [sl p.1 p.2]
def cellsN (l : List Nt) : List Value := l.flatMap encN
def cellsO (l : List On) : List Value := l.flatMap encO
structure RdJ (l : List Rt) (i : Nat) (ns : List Nt) (os : List On) (q1 q2 : Gr) : Prop where
  le : i ≤ l.length
  hn : ns.map Prod.fst = flL ((l.take i).map rq)
  ho : OsOk ((l.take i).map rq) os
  h1 : gOk q1 (cellsN ns) i 1
  h2 : gOk q2 (cellsO os) i 3
end Go.Proofs.Wk
/- Elections: a candidate's score walked. -/
namespace Go.Proofs.Wk
open Go.RowKit
set_option maxRecDepth 100000
set_option maxHeartbeats 4000000
attribute [local irreducible] Pw OpG
set_option linter.unusedVariables false
set_option linter.unusedSimpArgs false
section
variable {P : Program} {w0 : World} {M O : Nat → Prop} {n : Nat} {K : Slots} {L : List Blk} {G : List (World → Prop)} {Q : Exit → Act → World → Prop} {ops : Array Oper}
  {d : Nat} {ty : TypeId} {pos : String} {af : Array Edge} {gd : Option (Nat × Bool)} {fuel : Nat} {l : Array Bool}
theorem Pw.takeLO {x : Operand} {g o j : Nat} {cs : List Value} {t u : TypeId} {v : Value} {G0 : List (World → Prop)} (k : Nat) (l' : Array Bool) (ho : ops[k]? = some ⟨some d, .load u x, ty, pos, af, gd⟩) (hx : ev K x = some (.pointer (some ((⟨g, o, none⟩ : Addr).add j)))) (hb : Blks [] G0 g cs t) (hv : cs[o + j]? = some v) (hu : plainB P u = true)
    (hw : wantB K ops gd = some true) (hn : Nat.blt d n = true) (hc : takeB ops l k l' = true) (hQ : NoPan Q) (hS : ∀ w, St w0 M O L G w → All G0 w)
    (h : Pw w0 M O n ((d, v) :: K) L G (wpAnyH P .any ops Q (All G0) fuel l')) : Pw w0 M O n K L G (wpAnyH P .any ops Q (All G0) (fuel + 1) l) :=
  Pw.take k l' ho rfl hn hw hc hQ hS (fun a w ha hS' => load1_run hx ha hu (by rw [add_none, cell_of_blk (hb.h w (fun b hb => by cases hb) hS')]; exact hv)) h
end
abbrev nI (l : List Nat) : List Int := l.map (fun (i : Nat) => (i : Int))
end Go.Proofs.Wk
/- Elections: whether one is elected already. -/
namespace Go.Proofs.Wk
open Go.RowKit
set_option maxRecDepth 100000
set_option maxHeartbeats 4000000
attribute [local irreducible] Pw OpG
set_option linter.unusedVariables false
set_option linter.unusedSimpArgs false
end Go.Proofs.Wk
/- Elections: a round walked. -/
namespace Go.Proofs.Wk
open Go.RowKit
set_option maxRecDepth 100000
set_option maxHeartbeats 8000000
attribute [local irreducible] Pw OpG
set_option linter.unusedVariables false
set_option linter.unusedSimpArgs false
/-! ### What stands for a state -/
abbrev Ee := Int × Int × Int × Z2
structure Rp where
  zd : Option Addr × Nat
  ns : List Nt
  os : List On
  ss : Gr
  es : List (Nat × List Ee)
def seatQ (y : Int × Int × Int) : Int × List Int × List Int := (y.1, qn (Rat.divInt y.2.1 y.2.2), qd (Rat.divInt y.2.1 y.2.2))
structure RpOk (S : Est) (x : Rp) : Prop where
  ns : x.ns.map Prod.fst = S.ld.map natL
  os : x.os.map (fun o => (o.at_, o.a, o.b)) = S.se.map seatQ
  ss : gOk x.ss (cellsO x.os) x.os.length 3
  es : x.es.map (fun e => e.2.map (fun t => (t.1, t.2.1, t.2.2.1))) = S.ed
end Go.Proofs.Wk
/- Elections: the shares walked. -/
namespace Go.Proofs.Wk
open Go.RowKit
set_option maxRecDepth 100000
set_option maxHeartbeats 8000000
section
variable {P : Program} {w0 : World} {M O : Nat → Prop} {n : Nat} {K : Slots} {L : List Blk} {G : List (World → Prop)} {X : Act → World → Prop}
end
attribute [local irreducible] Pw OpG
set_option linter.unusedVariables false
set_option linter.unusedSimpArgs false
end Go.Proofs.Wk
/- Elections: the approvers «as» they grow, plain. -/
namespace Go.Proofs.Wk
open Go.RowKit
set_option maxRecDepth 100000
set_option linter.unusedVariables false
set_option linter.unusedSimpArgs false
abbrev Ae := Int × Gr × List Nat
abbrev cellsI (l : List Nat) : List Value := (nI l).map (Value.int .i64)
structure AOk (A : List Ae) : Prop where
  nd : (A.map Prod.fst).Nodup
  ok : ∀ e ∈ A, gOk e.2.1 (cellsI e.2.2) e.2.2.length 1
/-! ### What they should be -/
end Go.Proofs.Wk
/- An election at one voter: phragmen.Elect walked. -/
namespace Go.Proofs.Wk
open Go.RowKit
set_option maxRecDepth 100000
set_option maxHeartbeats 8000000
attribute [local irreducible] Pw OpG
set_option linter.unusedVariables false
set_option linter.unusedSimpArgs false
abbrev s1 (z zv zc : Option Addr × Nat) : Sn := ⟨[⟨1, 5, [2], z⟩], zv, [2], zc⟩
theorem v1 : val [1] = 1 := by decide
theorem v5 : val [5] = 5 := by decide
theorem v0 : val [] = 0 := by decide
theorem f1 : fmB [1] = true := by decide
theorem f0 : fmB [] = true := by decide
end Go.Proofs.Wk
/- Elections: newRunner walked. -/
namespace Go.Proofs.Wk
open Go.RowKit
set_option maxRecDepth 100000
set_option maxHeartbeats 8000000
attribute [local irreducible] Pw OpG
set_option linter.unusedVariables false
set_option linter.unusedSimpArgs false
structure Rn where
  gr : Nat
  ga : Nat
  gl : Nat
  capl : Nat
  ge : Nat
  cape : Nat
  ex : List Value
  exe : List Value
  m : List (Int × Value)
  za : Int → Option Addr × Nat
  x : Rp
end Go.Proofs.Wk
/- Elections: what a formed snapshot gives. -/
namespace Go.Proofs.Wk
open Go.RowKit
set_option linter.unusedVariables false
set_option linter.unusedSimpArgs false
end Go.Proofs.Wk
/- Elections: Elect walked. -/
namespace Go.Proofs.Wk
open Go.RowKit
set_option maxRecDepth 100000
set_option maxHeartbeats 8000000
attribute [local irreducible] Pw OpG
set_option linter.unusedVariables false
set_option linter.unusedSimpArgs false
structure Ea where
  os : List On
  zo : Option Addr × Nat
  sh : List Shr
  zs : Option Addr × Nat
end Go.Proofs.Wk
/- Elections: Elect of no voters; Elect of any snapshot. -/
namespace Go.Proofs.Wk
open Go.RowKit
set_option maxRecDepth 100000
set_option maxHeartbeats 8000000
attribute [local irreducible] Pw OpG
set_option linter.unusedVariables false
set_option linter.unusedSimpArgs false
end Go.Proofs.Wk
/- Elections: a voter more that gives nothing (plain). -/
namespace Go.Proofs.Wk
open Go.RowKit
set_option linter.unusedVariables false
set_option linter.unusedSimpArgs false
end Go.Proofs.Wk
/- Walks of layer 10 (graph): approvers, supported, seats, total. -/
namespace Go.Proofs.Wk
open Go.RowKit
set_option maxRecDepth 100000
set_option maxHeartbeats 1000000
attribute [local irreducible] Pw OpG
set_option linter.unusedVariables false
set_option linter.unusedSimpArgs false
end Go.Proofs.Wk
/- The document's snapshots: rising, Formed. -/
namespace Go.Proofs.Wk
open Go.RowKit
set_option maxRecDepth 100000
set_option maxHeartbeats 4000000
attribute [local irreducible] Pw OpG
set_option linter.unusedVariables false
set_option linter.unusedSimpArgs false
end Go.Proofs.Wk
/- The law GraphSupported walked. -/
namespace Go.Proofs.Wk
open Go.RowKit
set_option maxRecDepth 100000
set_option maxHeartbeats 4000000
attribute [local irreducible] Pw OpG
set_option linter.unusedVariables false
set_option linter.unusedSimpArgs false
end Go.Proofs.Wk
/- The document's snapshots: who approves whom; seats; the total. -/
namespace Go.Proofs.Wk
open Go.RowKit
set_option maxRecDepth 100000
set_option maxHeartbeats 4000000
attribute [local irreducible] Pw OpG
set_option linter.unusedVariables false
set_option linter.unusedSimpArgs false
end Go.Proofs.Wk
/- The document's snapshots: seats; the total. -/
namespace Go.Proofs.Wk
open Go.RowKit
set_option maxRecDepth 100000
set_option maxHeartbeats 4000000
attribute [local irreducible] Pw OpG
set_option linter.unusedVariables false
set_option linter.unusedSimpArgs false
end Go.Proofs.Wk
/- Elections: awake of chapter eleven; the law PhragmenSupports. -/
namespace Go.Proofs.Wk
open Go.RowKit
set_option maxRecDepth 100000
set_option maxHeartbeats 4000000
attribute [local irreducible] Pw OpG
set_option linter.unusedVariables false
set_option linter.unusedSimpArgs false
end Go.Proofs.Wk
/- Elections: psephoslaw11's Shares and Same walked. -/
namespace Go.Proofs.Wk
open Go.RowKit
set_option maxRecDepth 100000
set_option maxHeartbeats 4000000
attribute [local irreducible] Pw OpG
set_option linter.unusedVariables false
set_option linter.unusedSimpArgs false
end Go.Proofs.Wk
/- The law PhragmenIdle walked. -/
namespace Go.Proofs.Wk
open Go.RowKit
set_option maxRecDepth 100000
set_option maxHeartbeats 8000000
attribute [local irreducible] Pw OpG
set_option linter.unusedVariables false
set_option linter.unusedSimpArgs false
end Go.Proofs.Wk
/- Elections: all stakes so many times «as» great (plain). -/
namespace Go.Proofs.Wk
open Go.RowKit
set_option linter.unusedVariables false
set_option linter.unusedSimpArgs false
/-- How a state scales: K is m to the rounds' number. -/
structure ScR (m K : Int) (S S' : Est) : Prop where
  d : S'.D = K * S.D
  l : ∀ i, m * at0 S'.ld i = K * at0 S.ld i
  n : S'.ld.length = S.ld.length
  s : S'.se.map Prod.fst = S.se.map Prod.fst
  q : ∀ (i : Nat) (y y' : Int × Int × Int), S.se[i]? = some y → S'.se[i]? = some y' → y'.2.1 * m * y.2.2 = y.2.1 * y'.2.2
end Go.Proofs.Wk
/- Elections: what holds after each round (plain): scores rise, loads' sums, what is given. -/
namespace Go.Proofs.Wk
open Go.RowKit
set_option linter.unusedVariables false
set_option linter.unusedSimpArgs false
/-! ### The best one is the best -/
/-! ### Sums -/
/-! ### What holds behind j rounds; σ: the last score, over D -/
structure Inv (vs : List Vtr) (cs : List Int) (j : Nat) (σ : Int) (S : Est) : Prop where
  lm : ∀ i, at0 S.ld i ≤ σ
  el : ∀ c ∈ cs, elig vs S c = true → σ * scT vs (ap vs c) ≤ scN S.D vs S.ld (ap vs c)
  tot : sumL (fun i => at0 S.ld i * st vs i) (List.range vs.length) = j * S.D
  len : S.se.length = j
  nd : (S.se.map Prod.fst).Nodup
  sub : ∀ y ∈ S.se, y.1 ∈ cs ∧ ap vs y.1 ≠ []
  adj : ∀ (i : Nat) (p q : Int × Int × Int), S.se[i]? = some p → S.se[i + 1]? = some q → p.2.1 * q.2.2 ≤ q.2.1 * p.2.2
  last : ∀ (i : Nat) (p : Int × Int × Int), i + 1 = j → S.se[i]? = some p → p.2.1 = σ ∧ p.2.2 = S.D
  has : ∀ y ∈ S.se, ∀ i ∈ ap vs y.1, ∃ l, S.ed[i]? = some l ∧ ∃ x ∈ l, x.1 = y.1
  dv : ∀ (i : Nat) (l : List (Int × Int × Int)), S.ed[i]? = some l → (∀ x ∈ l, x.2.2 ∣ S.D) ∧ (l.map (fun x => x.2.1 * (S.D / x.2.2))).sum = at0 S.ld i ∧ (l.map Prod.fst).Nodup
end Go.Proofs.Wk
/- Elections: no group is due more than it has; all seats are filled; whoever gives gives its stake (plain). -/
namespace Go.Proofs.Wk
open Go.RowKit
set_option linter.unusedVariables false
set_option linter.unusedSimpArgs false
/-! ### Groups -/
end Go.Proofs.Wk
/- The document's Fair: the plain law on lists. -/
namespace Go.Proofs.Wk
open Go.RowKit
set_option linter.unusedVariables false
set_option linter.unusedSimpArgs false
end Go.Proofs.Wk
/- The document's Fair walked. -/
namespace Go.Proofs.Wk
open Go.RowKit
set_option maxRecDepth 100000
set_option maxHeartbeats 8000000
attribute [local irreducible] Pw OpG
set_option linter.unusedVariables false
set_option linter.unusedSimpArgs false
theorem rMulN_ct {a b : Int} (u v : Option Addr × Nat) (ha : 0 ≤ a) (hb : 0 ≤ b) {m n : Nat} (la : a < pw m) (lb : b < pw n) (hm : m + n ≤ 400) : Ct Tryz.prog 53 #[sl (natL a) u, sl (natL b) v] (fun W => S1 (natL a) u W ∧ S1 (natL b) v W) (fun z : Option Addr × Nat => .tuple #[sl (natL (a * b)) z, .int .i64 0]) Tt (fun z => S1 (natL (a * b)) z) := by
  have l1 := natL_len_le ha la; have l2 := natL_len_le hb lb
  have l3 := natL_len_le (Int.mul_nonneg ha hb) (mul_lt_pw ha la lb hb)
  have hc := rmul_ct (natL a) (natL b) u v (natL_fm a).1 (natL_fm b).1 (by omega) (by omega)
  rw [val_natL ha, val_natL hb] at hc
  have f1 := rFormed_ct (natL a) u (by omega)
  have f2 := rFormed_ct (natL b) v (by omega)
  rw [fmB_natL (by omega)] at f1 f2
  refine Ct.start Tryz.func53 rfl rfl (slots_of rfl slots2) (fun D w0 => Pw.facts (G' := [S1 (natL a) u, S1 (natL b) v]) (fun w h => allCons (fact0 h).1 (allCons (fact0 h).2 allNil)) ?_)
  repeat (first | refine Pw.runs ?_ | refine Pw.list (Pw.box rfl rfl rfl rfl (fun _ => ?_)) | refine Pw.list (Pw.alloc rfl rfl rfl rfl rfl (fun _ => ?_)))
  refine Pw.list (Pw.call f1 rfl rfl rfl (by kernel_rfl) rfl rfl (fun w h => (hv w h)) ?_)
  intro _ _
  repeat (first | refine Pw.runs ?_ | refine Pw.list (Pw.box rfl rfl rfl rfl (fun _ => ?_)) | refine Pw.list (Pw.alloc rfl rfl rfl rfl rfl (fun _ => ?_)))
  refine Pw.list (Pw.call f2 rfl rfl rfl (by kernel_rfl) rfl rfl (fun w h => (hv w h)) ?_)
  intro _ _
  repeat (first | refine Pw.runs ?_ | refine Pw.list (Pw.box rfl rfl rfl rfl (fun _ => ?_)) | refine Pw.list (Pw.alloc rfl rfl rfl rfl rfl (fun _ => ?_)))
  refine Pw.list (Pw.call hc rfl rfl rfl (by kernel_rfl) rfl rfl (fun w h => ⟨(hv w h), (hv w h)⟩) ?_)
  intro z1 _
  repeat (first | refine Pw.runs ?_ | refine Pw.list (Pw.box rfl rfl rfl rfl (fun _ => ?_)) | refine Pw.list (Pw.alloc rfl rfl rfl rfl rfl (fun _ => ?_)))
  have hbd := rbounded_ct (natL (a * b)) z1
  rw [bd_ok (by omega)] at hbd
  refine Pw.list (Pw.call hbd rfl rfl rfl (by kernel_rfl) rfl rfl (fun w h => (hv w h)) ?_)
  intro z2 _
  repeat (first | refine Pw.runs ?_ | refine Pw.list (Pw.box rfl rfl rfl rfl (fun _ => ?_)) | refine Pw.list (Pw.alloc rfl rfl rfl rfl rfl (fun _ => ?_)))
  exact Pw.ret_ (x := z2) (.tmp rfl (.tmp rfl .nil)) rfl trivial (fun w h => (hv w h))
end Go.Proofs.Wk
