/- Walks and their mathematics, merged. No conditions beyond those written. -/
import Derived.Test.YtjnniobafdchlaaWmPayoutWhole3
/- Exposures: the document's pages walked. -/
namespace Go.Proofs.Wk
open Go.RowKit Go.Sort
set_option maxRecDepth 100000
set_option maxHeartbeats 4000000
attribute [local irreducible] Pw OpG
set_option linter.unusedVariables false
set_option linter.unusedSimpArgs false
theorem permHead {b : Blk} {l : List Blk} : (b :: l).Perm (l ++ [b]) := List.perm_append_comm (l₁ := [b])
abbrev gLL (q2 : Gr) (c2 : List Value) (e2 : TypeId) (q1 : Gr) (c1 : List Value) (e1 : TypeId) : List Blk := gL q2 c2 e2 ++ gL q1 c1 e1
def outC (dn : List Pg) (v : Value) : List Value := cellsPg dn ++ [v]
theorem outC_len (dn : List Pg) (v : Value) : (outC dn v).length = dn.length + 1 := by unfold outC; rw [List.length_append, cellsPg_len]; simp
theorem outC_get (dn : List Pg) (v : Value) (ex : List Value) : (outC dn v ++ ex)[dn.length]? = some v := by
  unfold outC
  have : (cellsPg dn).length = dn.length := by rw [cellsPg_len]; omega
  rw [List.append_assoc, List.getElem?_append_right (by omega), this, Nat.sub_self]; rfl
theorem outC_set (dn : List Pg) (v u : Value) (ex : List Value) : (outC dn v ++ ex).set dn.length u = outC dn u ++ ex := by
  unfold outC
  have : (cellsPg dn).length = dn.length := by rw [cellsPg_len]; omega
  rw [← this]; exact set_mid ..
theorem outC_ok {dn : List Pg} {v u : Value} {q : Gr} (h : gOk q (outC dn v) (dn.length + 1) 1) : gOk q (outC dn u) (dn.length + 1) 1 := by
  obtain _ | ⟨g, cap, ex⟩ := q
  · cases h.1
  · obtain ⟨h1, h2, h3⟩ := h
    rw [List.length_append, outC_len] at h3
    exact ⟨by rw [outC_len]; omega, h2, by rw [List.length_append, outC_len]; exact h3⟩
def Jp (h : Pt) (l : List Pt) (k i : Nat) (dn : List Pg) (q2 q1 : Gr) : Prop := dn.length * k ≤ i ∧ dn.map Prod.fst = (List.range dn.length).map (pgAt h l k) ∧ gOk q2 (cellsP (curP h l k i dn.length)) (curP h l k i dn.length).length 2 ∧ gOk q1 (outC dn (gv q2 (curP h l k i dn.length).length)) (dn.length + 1) 1
theorem rPages_ct (x : Ex) (hx : ExW x) (hl : x.oth.length ≤ 1000) (size : Int) (hs : size ≤ 9223372036854775807) :
    Ct Try.prog 10 #[exV x, .int .i64 size] (exF x) (fun r : List Pg × (Option Addr × Nat) => .tuple #[.slice r.2.1 (pagesR x size).1.length r.2.2, .int .i64 (pagesR x size).2]) (fun r => r.1.map Prod.fst = (pagesR x size).1) (fun r => PGS r.1 r.2) := by
  refine Ct.start Try.func10 rfl rfl (slots_of rfl slots2) (fun D w0 => ?_)
  repeat (first | (with_reducible first | refine Pw.seq ?_ | refine Pw.region ?_ | refine Pw.nil ?_ | refine Pw.then_ ?_ | refine Pw.skip ?_ | refine Pw.block ?_ | refine Pw.exit ?_ | refine Pw.inX ?_ | refine Pw.inN ?_ | refine Pw.inR ?_ | refine Pw.thenX ?_ | refine Pw.thenR ?_ | refine Pw.ret ?_) | refine Pw.list (Pw.pure rfl rfl rfl ?_) | refine Pw.inY rfl ?_ | refine Pw.list (Pw.off rfl rfl ?_) | refine Pw.condT rfl ?_ | refine Pw.condF rfl ?_)
  refine Pw.list (Pw.box rfl rfl rfl rfl (fun g2 => freeHead ?_))
  repeat (first | (with_reducible first | refine Pw.seq ?_ | refine Pw.region ?_ | refine Pw.nil ?_ | refine Pw.then_ ?_ | refine Pw.skip ?_ | refine Pw.block ?_ | refine Pw.exit ?_ | refine Pw.inX ?_ | refine Pw.inN ?_ | refine Pw.inR ?_ | refine Pw.thenX ?_ | refine Pw.thenR ?_ | refine Pw.ret ?_) | refine Pw.list (Pw.pure rfl rfl rfl ?_) | refine Pw.inY rfl ?_ | refine Pw.list (Pw.off rfl rfl ?_) | refine Pw.condT rfl ?_ | refine Pw.condF rfl ?_ | refine Pw.list (Pw.box rfl rfl rfl rfl (fun _ => ?_)) | refine Pw.list (Pw.alloc rfl rfl rfl rfl rfl (fun _ => ?_)) | refine Pw.list (Pw.build rfl rfl rfl rfl ?_) | refine Pw.list (Pw.ld rfl inferInstance rfl rfl rfl ?_) | refine Pw.list (Pw.sto rfl rfl inferInstance rfl rfl rfl rfl rfl inferInstance rfl ?_))
  refine Pw.list (Pw.call (xFormed_ct x) rfl rfl rfl (by kernel_rfl) rfl rfl (fun w h => (hv w h)) ?_)
  intro _ _
  cases hF : formX x
  · have e : pagesR x size = ([], 1) := if_pos (.inr hF)
    repeat (first | (with_reducible first | refine Pw.seq ?_ | refine Pw.region ?_ | refine Pw.nil ?_ | refine Pw.then_ ?_ | refine Pw.skip ?_ | refine Pw.block ?_ | refine Pw.exit ?_ | refine Pw.inX ?_ | refine Pw.inN ?_ | refine Pw.inR ?_ | refine Pw.thenX ?_ | refine Pw.thenR ?_ | refine Pw.ret ?_) | refine Pw.list (Pw.pure rfl rfl rfl ?_) | refine Pw.inY rfl ?_ | refine Pw.list (Pw.off rfl rfl ?_) | refine Pw.condT rfl ?_ | refine Pw.condF rfl ?_ | refine Pw.list (Pw.box rfl rfl rfl rfl (fun _ => ?_)) | refine Pw.list (Pw.alloc rfl rfl rfl rfl rfl (fun _ => ?_)) | refine Pw.list (Pw.build rfl rfl rfl rfl ?_) | refine Pw.list (Pw.ld rfl inferInstance rfl rfl rfl ?_) | refine Pw.list (Pw.sto rfl rfl inferInstance rfl rfl rfl rfl rfl inferInstance rfl ?_))
    exact Pw.ret_ (x := ([], (none, 0))) (.tmp rfl (.tmp rfl .nil)) (by rw [e]; rfl) (by rw [e]; rfl) (fun w h => Rows.nil _ _ _ _ _)
  repeat (first | (with_reducible first | refine Pw.seq ?_ | refine Pw.region ?_ | refine Pw.nil ?_ | refine Pw.then_ ?_ | refine Pw.skip ?_ | refine Pw.block ?_ | refine Pw.exit ?_ | refine Pw.inX ?_ | refine Pw.inN ?_ | refine Pw.inR ?_ | refine Pw.thenX ?_ | refine Pw.thenR ?_ | refine Pw.ret ?_) | refine Pw.list (Pw.pure rfl rfl rfl ?_) | refine Pw.inY rfl ?_ | refine Pw.list (Pw.off rfl rfl ?_) | refine Pw.condT rfl ?_ | refine Pw.condF rfl ?_ | refine Pw.list (Pw.box rfl rfl rfl rfl (fun _ => ?_)) | refine Pw.list (Pw.alloc rfl rfl rfl rfl rfl (fun _ => ?_)) | refine Pw.list (Pw.build rfl rfl rfl rfl ?_) | refine Pw.list (Pw.ld rfl inferInstance rfl rfl rfl ?_) | refine Pw.list (Pw.sto rfl rfl inferInstance rfl rfl rfl rfl rfl inferInstance rfl ?_))
  refine Pw.condD rfl (fun c1 => ?_) (fun c1 => ?_)
  · have e : pagesR x size = ([], 1) := if_pos (.inl c1)
    repeat (first | (with_reducible first | refine Pw.seq ?_ | refine Pw.region ?_ | refine Pw.nil ?_ | refine Pw.then_ ?_ | refine Pw.skip ?_ | refine Pw.block ?_ | refine Pw.exit ?_ | refine Pw.inX ?_ | refine Pw.inN ?_ | refine Pw.inR ?_ | refine Pw.thenX ?_ | refine Pw.thenR ?_ | refine Pw.ret ?_) | refine Pw.list (Pw.pure rfl rfl rfl ?_) | refine Pw.inY rfl ?_ | refine Pw.list (Pw.off rfl rfl ?_) | refine Pw.condT rfl ?_ | refine Pw.condF rfl ?_ | refine Pw.list (Pw.box rfl rfl rfl rfl (fun _ => ?_)) | refine Pw.list (Pw.alloc rfl rfl rfl rfl rfl (fun _ => ?_)) | refine Pw.list (Pw.build rfl rfl rfl rfl ?_) | refine Pw.list (Pw.ld rfl inferInstance rfl rfl rfl ?_) | refine Pw.list (Pw.sto rfl rfl inferInstance rfl rfl rfl rfl rfl inferInstance rfl ?_))
    exact Pw.ret_ (x := ([], (none, 0))) (.tmp rfl (.tmp rfl .nil)) (by rw [e]; rfl) (by rw [e]; rfl) (fun w h => Rows.nil _ _ _ _ _)
  repeat (first | (with_reducible first | refine Pw.seq ?_ | refine Pw.region ?_ | refine Pw.nil ?_ | refine Pw.then_ ?_ | refine Pw.skip ?_ | refine Pw.block ?_ | refine Pw.exit ?_ | refine Pw.inX ?_ | refine Pw.inN ?_ | refine Pw.inR ?_ | refine Pw.thenX ?_ | refine Pw.thenR ?_ | refine Pw.ret ?_) | refine Pw.list (Pw.pure rfl rfl rfl ?_) | refine Pw.inY rfl ?_ | refine Pw.list (Pw.off rfl rfl ?_) | refine Pw.condT rfl ?_ | refine Pw.condF rfl ?_ | refine Pw.list (Pw.box rfl rfl rfl rfl (fun _ => ?_)) | refine Pw.list (Pw.alloc rfl rfl rfl rfl rfl (fun _ => ?_)) | refine Pw.list (Pw.build rfl rfl rfl rfl ?_) | refine Pw.list (Pw.ld rfl inferInstance rfl rfl rfl ?_) | refine Pw.list (Pw.sto rfl rfl inferInstance rfl rfl rfl rfl rfl inferInstance rfl ?_))
  refine Pw.list (Pw.call (rTotal_ct x hx (by omega)) rfl rfl rfl (by kernel_rfl) rfl rfl (fun w h => (hv w h)) ?_)
  intro _ _
  repeat (first | (with_reducible first | refine Pw.seq ?_ | refine Pw.region ?_ | refine Pw.nil ?_ | refine Pw.then_ ?_ | refine Pw.skip ?_ | refine Pw.block ?_ | refine Pw.exit ?_ | refine Pw.inX ?_ | refine Pw.inN ?_ | refine Pw.inR ?_ | refine Pw.thenX ?_ | refine Pw.thenR ?_ | refine Pw.ret ?_) | refine Pw.list (Pw.pure rfl rfl rfl ?_) | refine Pw.inY rfl ?_ | refine Pw.list (Pw.off rfl rfl ?_) | refine Pw.condT rfl ?_ | refine Pw.condF rfl ?_ | refine Pw.list (Pw.box rfl rfl rfl rfl (fun _ => ?_)) | refine Pw.list (Pw.alloc rfl rfl rfl rfl rfl (fun _ => ?_)) | refine Pw.list (Pw.build rfl rfl rfl rfl ?_) | refine Pw.list (Pw.ld rfl inferInstance rfl rfl rfl ?_) | refine Pw.list (Pw.sto rfl rfl inferInstance rfl rfl rfl rfl rfl inferInstance rfl ?_))
  refine Pw.condD rfl (fun c2 => ?_) (fun c2 => ?_)
  · have e : pagesR x size = ([], (totX x).2) := by unfold pagesR; rw [if_neg (by rw [hF]; simp; omega), if_pos c2]
    repeat (first | (with_reducible first | refine Pw.seq ?_ | refine Pw.region ?_ | refine Pw.nil ?_ | refine Pw.then_ ?_ | refine Pw.skip ?_ | refine Pw.block ?_ | refine Pw.exit ?_ | refine Pw.inX ?_ | refine Pw.inN ?_ | refine Pw.inR ?_ | refine Pw.thenX ?_ | refine Pw.thenR ?_ | refine Pw.ret ?_) | refine Pw.list (Pw.pure rfl rfl rfl ?_) | refine Pw.inY rfl ?_ | refine Pw.list (Pw.off rfl rfl ?_) | refine Pw.condT rfl ?_ | refine Pw.condF rfl ?_ | refine Pw.list (Pw.box rfl rfl rfl rfl (fun _ => ?_)) | refine Pw.list (Pw.alloc rfl rfl rfl rfl rfl (fun _ => ?_)) | refine Pw.list (Pw.build rfl rfl rfl rfl ?_) | refine Pw.list (Pw.ld rfl inferInstance rfl rfl rfl ?_) | refine Pw.list (Pw.sto rfl rfl inferInstance rfl rfl rfl rfl rfl inferInstance rfl ?_))
    exact Pw.ret_ (x := ([], (none, 0))) (.tmp rfl (.tmp rfl .nil)) (by rw [e]; rfl) (by rw [e]; rfl) (fun w h => Rows.nil _ _ _ _ _)
  have eR : pagesR x size = (pagesS x size.toNat, 0) := by unfold pagesR; rw [if_neg (by rw [hF]; simp; omega), if_neg c2]
  rw [eR]
  obtain ⟨k, rfl⟩ : ∃ k : Nat, size = k := ⟨size.toNat, by omega⟩
  rw [Int.toNat_natCast]
  have hk : 1 ≤ k := by omega
  clear eR c1 c2
  obtain ⟨xi, xc, xo, oth, ⟨A, zc0⟩⟩ := x
  replace hl : oth.length ≤ 1000 := hl
  repeat (first | (with_reducible first | refine Pw.seq ?_ | refine Pw.region ?_ | refine Pw.nil ?_ | refine Pw.then_ ?_ | refine Pw.skip ?_ | refine Pw.block ?_ | refine Pw.exit ?_ | refine Pw.inX ?_ | refine Pw.inN ?_ | refine Pw.inR ?_ | refine Pw.thenX ?_ | refine Pw.thenR ?_ | refine Pw.ret ?_) | refine Pw.list (Pw.pure rfl rfl rfl ?_) | refine Pw.inY rfl ?_ | refine Pw.list (Pw.off rfl rfl ?_) | refine Pw.condT rfl ?_ | refine Pw.condF rfl ?_ | refine Pw.list (Pw.box rfl rfl rfl rfl (fun _ => ?_)) | refine Pw.list (Pw.alloc rfl rfl rfl rfl rfl (fun _ => ?_)) | refine Pw.list (Pw.build rfl rfl rfl rfl ?_) | refine Pw.list (Pw.ld rfl inferInstance rfl rfl rfl ?_) | refine Pw.list (Pw.sto rfl rfl inferInstance rfl rfl rfl rfl rfl inferInstance rfl ?_))
  refine Pw.facts (G' := [fun W => W.heap[g2]? = some (row [.int .i64 xi, .int .u64 xc, .int .u64 xo, .slice A oth.length zc0] 25), PS oth (A, zc0), PS [] (none, 0)]) (fun w h => allCons (by first | exact fact0 (h) | exact fact0 (allTail (h)) | exact fact0 (allTail (allTail (h))) | exact fact0 (allTail (allTail (allTail (h)))) | exact fact0 (allTail (allTail (allTail (allTail (h))))) | exact fact0 (allTail (allTail (allTail (allTail (allTail (h)))))) | exact fact0 (allTail (allTail (allTail (allTail (allTail (allTail (h))))))) | exact fact0 (allTail (allTail (allTail (allTail (allTail (allTail (allTail (h)))))))) | exact fact0 (allTail (allTail (allTail (allTail (allTail (allTail (allTail (allTail (h))))))))) | exact fact0 (allTail (allTail (allTail (allTail (allTail (allTail (allTail (allTail (allTail (h))))))))))) (allCons (hv w h) (allCons (Rows.nil _ _ _ _ _) allNil))) ?_
  refine Pw.loopJ (σ := Nat × List Pt × (Option Addr × Nat)) (fun t => t.1 ≤ oth.length ∧ Fall t.2.1 ∧ t.2.1.Perm (oth.take t.1)) (fun t => ⟨[(1, .int .i64 k), (2, .pointer (some ⟨g2, 0, none⟩)), (8, psV t.2.1 t.2.2), (32, .int .i64 oth.length), (33, .int .i64 t.1)], [], [fun W => W.heap[g2]? = some (row [.int .i64 xi, .int .u64 xc, .int .u64 xo, .slice A oth.length zc0] 25), PS oth (A, zc0), PS t.2.1 t.2.2]⟩) (fun t => oth.length - t.1) (0, [], (none, 0)) ⟨Nat.zero_le _, List.Pairwise.nil, .refl _⟩ (Pw.enter ⟨rfl, rfl, rfl, rfl, rfl, trivial⟩ (fun w h => h)) ?_
  rintro ⟨i, l, za, zc⟩ ⟨hi, hfall, hperm⟩
  dsimp only at hi hfall hperm ⊢
  have hll0 : l.length = i := by rw [hperm.length_eq, List.length_take]; omega
  repeat (first | (with_reducible first | refine Pw.seq ?_ | refine Pw.region ?_ | refine Pw.nil ?_ | refine Pw.then_ ?_ | refine Pw.skip ?_ | refine Pw.block ?_ | refine Pw.exit ?_ | refine Pw.inX ?_ | refine Pw.inN ?_ | refine Pw.inR ?_ | refine Pw.thenX ?_ | refine Pw.thenR ?_ | refine Pw.ret ?_) | refine Pw.list (Pw.pure rfl rfl rfl ?_) | refine Pw.inY rfl ?_ | refine Pw.list (Pw.off rfl rfl ?_) | refine Pw.condT rfl ?_ | refine Pw.condF rfl ?_ | refine Pw.list (Pw.box rfl rfl rfl rfl (fun _ => ?_)) | refine Pw.list (Pw.alloc rfl rfl rfl rfl rfl (fun _ => ?_)) | refine Pw.list (Pw.build rfl rfl rfl rfl ?_) | refine Pw.list (Pw.ld rfl inferInstance rfl rfl rfl ?_) | refine Pw.list (Pw.sto rfl rfl inferInstance rfl rfl rfl rfl rfl inferInstance rfl ?_))
  refine Pw.condD rfl (fun c3 => ?_) (fun c3 => ?_)
  · obtain ⟨p, hp, hm⟩ := get_at (show i < oth.length by omega)
    refine Pw.use (p := A.isSome = true) (fun w h => (hv w h : PS oth (A, zc0) w).has (Int.natCast_nonneg i) c3) (fun hA => ?_)
    obtain ⟨ad0, rfl⟩ := Option.isSome_iff_exists.1 hA
    repeat (first | (with_reducible first | refine Pw.seq ?_ | refine Pw.region ?_ | refine Pw.nil ?_ | refine Pw.then_ ?_ | refine Pw.skip ?_ | refine Pw.block ?_ | refine Pw.exit ?_ | refine Pw.inX ?_ | refine Pw.inN ?_ | refine Pw.inR ?_ | refine Pw.thenX ?_ | refine Pw.thenR ?_ | refine Pw.ret ?_) | refine Pw.list (Pw.pure rfl rfl rfl ?_) | refine Pw.inY rfl ?_ | refine Pw.list (Pw.off rfl rfl ?_) | refine Pw.condT rfl ?_ | refine Pw.condF rfl ?_ | refine Pw.list (Pw.box rfl rfl rfl rfl (fun _ => ?_)) | refine Pw.list (Pw.alloc rfl rfl rfl rfl rfl (fun _ => ?_)) | refine Pw.list (Pw.build rfl rfl rfl rfl ?_) | refine Pw.list (Pw.ld rfl inferInstance rfl rfl rfl ?_) | refine Pw.list (Pw.sto rfl rfl inferInstance rfl rfl rfl rfl rfl inferInstance rfl ?_))
    refine Pw.loopJ (σ := Nat) (fun j => j ≤ l.length ∧ ∀ t, t < j → ∀ y, l[t]? = some y → aheadP y p = true) (fun j => ⟨[(1, .int .i64 k), (2, .pointer (some ⟨g2, 0, none⟩)), (8, psV l (za, zc)), (9, .int .i64 i), (10, .int .i64 j), (32, .int .i64 oth.length), (33, .int .i64 i)], [], [fun W => W.heap[g2]? = some (row [.int .i64 xi, .int .u64 xc, .int .u64 xo, .slice (some ad0) oth.length zc0] 25), PS oth (some ad0, zc0), PS l (za, zc)]⟩) (fun j => l.length - j) 0 ⟨Nat.zero_le _, fun j hj => absurd hj (Nat.not_lt_zero j)⟩ (Pw.enter ⟨rfl, rfl, rfl, rfl, rfl, rfl, rfl, trivial⟩ (fun w h => h)) ?_
    rintro j ⟨hj2, hj1⟩
    dsimp only at hj2 hj1 ⊢
    repeat (first | (with_reducible first | refine Pw.seq ?_ | refine Pw.region ?_ | refine Pw.nil ?_ | refine Pw.then_ ?_ | refine Pw.skip ?_ | refine Pw.block ?_ | refine Pw.exit ?_ | refine Pw.inX ?_ | refine Pw.inN ?_ | refine Pw.inR ?_ | refine Pw.thenX ?_ | refine Pw.thenR ?_ | refine Pw.ret ?_) | refine Pw.list (Pw.pure rfl rfl rfl ?_) | refine Pw.inY rfl ?_ | refine Pw.list (Pw.off rfl rfl ?_) | refine Pw.condT rfl ?_ | refine Pw.condF rfl ?_ | refine Pw.list (Pw.box rfl rfl rfl rfl (fun _ => ?_)) | refine Pw.list (Pw.alloc rfl rfl rfl rfl rfl (fun _ => ?_)) | refine Pw.list (Pw.build rfl rfl rfl rfl ?_) | refine Pw.list (Pw.ld rfl inferInstance rfl rfl rfl ?_) | refine Pw.list (Pw.sto rfl rfl inferInstance rfl rfl rfl rfl rfl inferInstance rfl ?_))
    refine Pw.drawnG mixed rfl rfl ?_
    refine Pw.takeP 0 (nb 16 1) rfl rfl rfl rfl (by kernel_rfl) np sf ?_
    refine Pw.takeP 1 (nb 16 3) rfl rfl rfl rfl (by kernel_rfl) np sf ?_
    refine Pw.takeP 2 (nb 16 7) rfl rfl rfl rfl (by kernel_rfl) np sf ?_
    refine Pw.takeP 3 (nb 16 15) rfl rfl rfl rfl (by kernel_rfl) np sf ?_
    refine Pw.takeP 4 (nb 16 31) rfl rfl rfl rfl (by kernel_rfl) np sf ?_
    by_cases hjl : j < l.length
    · obtain ⟨y, hy, _⟩ := get_at hjl
      refine Pw.use (p := za.isSome = true) (fun w h => (hv w h : PS l (za, zc) w).has (i := (j : Int)) (by omega) (by omega)) (fun hA => ?_)
      obtain ⟨zd, rfl⟩ := Option.isSome_iff_exists.1 hA
      refine Pw.re (d := 40) (v' := .bool true) rfl (congrArg Value.bool (decide_eq_true (by omega))) ?_
      refine Pw.takeP 5 (nb 16 63) rfl rfl rfl rfl (by kernel_rfl) np sf ?_
      refine Pw.takeP 6 (nb 16 127) rfl rfl rfl rfl (by kernel_rfl) np sf ?_
      refine Pw.takeIx 7 (nb 16 255) rfl rfl rfl rfl rfl (by first | assumption | omega) (by first | assumption | omega) rfl rfl (by kernel_rfl) np sf ?_
      refine Pw.takeLA y 8 (nb 16 511) rfl rfl inferInstance rfl (by first | assumption | (rw [Int.toNat_natCast]; assumption)) (by kernel_rfl) rfl rfl (by kernel_rfl) np sf ?_
      refine Pw.takeP 9 (nb 16 1023) rfl rfl rfl rfl (by kernel_rfl) np sf ?_
      refine Pw.takeF 10 (nb 16 2047) rfl rfl inferInstance rfl rfl rfl (by kernel_rfl) np sf ?_
      refine Pw.takeP 11 (nb 16 4095) rfl rfl rfl rfl (by kernel_rfl) np sf ?_
      refine Pw.takeIx 12 (nb 16 8191) rfl rfl rfl rfl rfl (by first | assumption | omega) (by first | assumption | omega) rfl rfl (by kernel_rfl) np sf ?_
      refine Pw.takeLA p 13 (nb 16 16383) rfl rfl inferInstance rfl (by first | assumption | (rw [Int.toNat_natCast]; assumption)) (by kernel_rfl) rfl rfl (by kernel_rfl) np sf ?_
      refine Pw.one 14 (nb 16 32767) rfl (by kernel_rfl) ?_
      -- call Op.call { callee := Callee.value (Operand.func 26), args := #[Operand.tmp 44, Operand.tmp 49], argTypes := #[44, 44] }
      refine Pw.call (ahead_ct y p) rfl rfl rfl (by kernel_rfl) rfl rfl (fun w h => trivial) ?_
      intro _ _
      refine Pw.held sf ?_
      refine Pw.takeP 15 (nb 16 65535) rfl rfl rfl rfl (by kernel_rfl) np sf ?_
      refine Pw.done (by kernel_rfl) ?_
      refine Pw.facts (G' := [fun W => W.heap[g2]? = some (row [.int .i64 xi, .int .u64 xc, .int .u64 xo, .slice (some ad0) oth.length zc0] 25), PS oth (some ad0, zc0), PS l (some zd, zc)]) (fun w h => allTail h) ?_
      cases hay : aheadP y p
      · have hj3 : ∀ t, l[j]? = some t → aheadP t p = false := fun t h => by rw [hy] at h; cases h; exact hay
        repeat (first | (with_reducible first | refine Pw.seq ?_ | refine Pw.region ?_ | refine Pw.nil ?_ | refine Pw.then_ ?_ | refine Pw.skip ?_ | refine Pw.block ?_ | refine Pw.exit ?_ | refine Pw.inX ?_ | refine Pw.inN ?_ | refine Pw.inR ?_ | refine Pw.thenX ?_ | refine Pw.thenR ?_ | refine Pw.ret ?_) | refine Pw.list (Pw.pure rfl rfl rfl ?_) | refine Pw.inY rfl ?_ | refine Pw.list (Pw.off rfl rfl ?_) | refine Pw.condT rfl ?_ | refine Pw.condF rfl ?_ | refine Pw.list (Pw.box rfl rfl rfl rfl (fun _ => ?_)) | refine Pw.list (Pw.alloc rfl rfl rfl rfl rfl (fun _ => ?_)) | refine Pw.list (Pw.build rfl rfl rfl rfl ?_) | refine Pw.list (Pw.ld rfl inferInstance rfl rfl rfl ?_) | refine Pw.list (Pw.sto rfl rfl inferInstance rfl rfl rfl rfl rfl inferInstance rfl ?_))
        refine Pw.use (p := l.length ≤ zc) (fun w h => (hv w h : PS l ((some zd), zc) w).le) (fun hlc => ?_)
        refine Pw.list (Pw.cutTo rfl rfl rfl rfl (Int.natCast_nonneg j) (by omega) rfl rfl ?_)
        refine Pw.list (Pw.pushG (s := none) (m := 0) (cells := []) (news := cellsP (l.take j)) (L0 := []) rfl rfl rfl rfl rfl rfl rfl ⟨rfl, rfl⟩ (by rw [cellsP_len, List.length_take, Int.toNat_natCast, Nat.min_eq_left hj2]; rfl) cellsP_one (fun w hs j' u hu => Rows.toCellsE ((hv w hs.all : PS l ((some zd), zc) w).take j) (by omega) j' u hu) (by show 0 < 2; omega) (by simp only [maxLen]; omega) (by show (0 + (j : Int).toNat) * 16 ≤ _; omega) rfl rfl (fun q1 hq1 => ?_))
        rw [Nat.zero_add, List.nil_append, Int.toNat_natCast] at hq1 ⊢
        repeat (first | (with_reducible first | refine Pw.seq ?_ | refine Pw.region ?_ | refine Pw.nil ?_ | refine Pw.then_ ?_ | refine Pw.skip ?_ | refine Pw.block ?_ | refine Pw.exit ?_ | refine Pw.inX ?_ | refine Pw.inN ?_ | refine Pw.inR ?_ | refine Pw.thenX ?_ | refine Pw.thenR ?_ | refine Pw.ret ?_) | refine Pw.list (Pw.pure rfl rfl rfl ?_) | refine Pw.inY rfl ?_ | refine Pw.list (Pw.off rfl rfl ?_) | refine Pw.condT rfl ?_ | refine Pw.condF rfl ?_ | refine Pw.list (Pw.box rfl rfl rfl rfl (fun _ => ?_)) | refine Pw.list (Pw.alloc rfl rfl rfl rfl rfl (fun _ => ?_)) | refine Pw.list (Pw.build rfl rfl rfl rfl ?_) | refine Pw.list (Pw.ld rfl inferInstance rfl rfl rfl ?_) | refine Pw.list (Pw.sto rfl rfl inferInstance rfl rfl rfl rfl rfl inferInstance rfl ?_))
        refine Pw.list (Pw.indexS rfl rfl rfl rfl (Int.natCast_nonneg i) c3 rfl rfl ?_)
        refine Pw.list (Pw.loadR p rfl inferInstance rfl (by rw [Int.toNat_natCast]; exact hp) (by kernel_rfl) rfl rfl ?_)
        refine Pw.re (d := 64) (v' := ptV p) rfl rfl ?_
        refine Pw.list (Pw.lit12 rfl rfl rfl rfl rfl rfl rfl rfl rfl (fun g65 => freeHead ?_))
        refine Pw.list (Pw.push (s := q1) (m := j) (cells := cellsP (l.take j)) (news := encP p) (L0 := []) rfl rfl rfl rfl rfl rfl rfl hq1 rfl (fun u hu => cellsP_one (l := [p]) u (by simpa [cellsP] using hu)) (fun w hs j' u hu => by
          have h1 : w.heap[g65]? = some (row (encP p) 44) := fact0 hs.all
          rw [add_none, cell_of_blk h1]
          simpa [encP] using hu) (by omega) (by simp only [maxLen]; omega) (by show (j + 1) * 16 ≤ _; omega) rfl rfl (fun q2 hq2 => ?_))
        repeat (first | (with_reducible first | refine Pw.seq ?_ | refine Pw.region ?_ | refine Pw.nil ?_ | refine Pw.then_ ?_ | refine Pw.skip ?_ | refine Pw.block ?_ | refine Pw.exit ?_ | refine Pw.inX ?_ | refine Pw.inN ?_ | refine Pw.inR ?_ | refine Pw.thenX ?_ | refine Pw.thenR ?_ | refine Pw.ret ?_) | refine Pw.list (Pw.pure rfl rfl rfl ?_) | refine Pw.inY rfl ?_ | refine Pw.list (Pw.off rfl rfl ?_) | refine Pw.condT rfl ?_ | refine Pw.condF rfl ?_ | refine Pw.list (Pw.box rfl rfl rfl rfl (fun _ => ?_)) | refine Pw.list (Pw.alloc rfl rfl rfl rfl rfl (fun _ => ?_)) | refine Pw.list (Pw.build rfl rfl rfl rfl ?_) | refine Pw.list (Pw.ld rfl inferInstance rfl rfl rfl ?_) | refine Pw.list (Pw.sto rfl rfl inferInstance rfl rfl rfl rfl rfl inferInstance rfl ?_))
        refine Pw.list (Pw.cutA rfl rfl rfl rfl (Int.natCast_nonneg j) (by omega) hlc rfl rfl ?_)
        refine Pw.list (Pw.pushG (s := q2) (m := j + 1) (cells := cellsP (l.take j) ++ encP p) (news := cellsP (l.drop j)) (L0 := []) rfl rfl rfl rfl rfl rfl rfl hq2 (by rw [cellsP_len, List.length_drop, Int.toNat_natCast]; rfl) cellsP_one (fun w hs j' u hu => Rows.toCellsE ((hv w hs.all : PS l ((some zd), zc) w).dropC j) (by omega) j' u hu) (by show 0 < 2; omega) (by simp only [maxLen]; omega) (by show (j + 1 + (l.length - (j : Int).toNat)) * 16 ≤ _; omega) rfl rfl (fun q3 hq3 => ?_))
        have ec : cellsP (l.take j) ++ encP p ++ cellsP (l.drop j) = cellsP (l.take j ++ [p] ++ l.drop j) := by unfold cellsP; simp
        have el : j + 1 + (l.length - (j : Int).toNat) = (l.take j ++ [p] ++ l.drop j).length := by rw [List.length_append, List.length_append, List.length_take, List.length_drop]; simp; omega
        rw [ec, el] at hq3 ⊢
        have hfall' := ins_fall hfall hj1 hj3
        have hperm' : (l.take j ++ [p] ++ l.drop j).Perm (oth.take (i + 1)) := ins_perm.trans (by rw [take_snoc hp]; exact hperm.append_right _)
        obtain ⟨l', hl'⟩ : ∃ l', l' = l.take j ++ [p] ++ l.drop j := ⟨_, rfl⟩
        have hll := congrArg List.length hl'
        rw [List.length_append, List.length_append, List.length_take, List.length_drop, List.length_singleton] at hll
        rw [← hl'] at hq3 hfall' hperm' ⊢
        repeat (first | (with_reducible first | refine Pw.seq ?_ | refine Pw.region ?_ | refine Pw.nil ?_ | refine Pw.then_ ?_ | refine Pw.skip ?_ | refine Pw.block ?_ | refine Pw.exit ?_ | refine Pw.inX ?_ | refine Pw.inN ?_ | refine Pw.inR ?_ | refine Pw.thenX ?_ | refine Pw.thenR ?_ | refine Pw.ret ?_) | refine Pw.list (Pw.pure rfl rfl rfl ?_) | refine Pw.inY rfl ?_ | refine Pw.list (Pw.off rfl rfl ?_) | refine Pw.condT rfl ?_ | refine Pw.condF rfl ?_ | refine Pw.list (Pw.box rfl rfl rfl rfl (fun _ => ?_)) | refine Pw.list (Pw.alloc rfl rfl rfl rfl rfl (fun _ => ?_)) | refine Pw.list (Pw.build rfl rfl rfl rfl ?_) | refine Pw.list (Pw.ld rfl inferInstance rfl rfl rfl ?_) | refine Pw.list (Pw.sto rfl rfl inferInstance rfl rfl rfl rfl rfl inferInstance rfl ?_))
        refine Pw.freeG hq3 (fun A c e hc => ?_)
        refine Pw.re (d := 8) (v' := psV l' (A, c)) rfl e ?_
        refine Pw.re (d := 33) (v' := .int .i64 ((i + 1 : Nat) : Int)) rfl (congrArg (Value.int .i64) (i64s (n := 100000) (by omega) (by omega))) ?_
        exact Pw.again (i + 1, l', (A, c)) ⟨by omega, hfall', hperm'⟩ (by show oth.length - (i + 1) < oth.length - i; omega) ⟨rfl, rfl, rfl, rfl, rfl, trivial⟩ rfl (fun w h => allCons (by first | exact fact0 (h) | exact fact0 (allTail (h)) | exact fact0 (allTail (allTail (h))) | exact fact0 (allTail (allTail (allTail (h)))) | exact fact0 (allTail (allTail (allTail (allTail (h))))) | exact fact0 (allTail (allTail (allTail (allTail (allTail (h)))))) | exact fact0 (allTail (allTail (allTail (allTail (allTail (allTail (h))))))) | exact fact0 (allTail (allTail (allTail (allTail (allTail (allTail (allTail (h)))))))) | exact fact0 (allTail (allTail (allTail (allTail (allTail (allTail (allTail (allTail (h))))))))) | exact fact0 (allTail (allTail (allTail (allTail (allTail (allTail (allTail (allTail (allTail (h))))))))))) (allCons (hv w h) (allCons (rows_of_cells (fun _ _ => rfl) (fun _ _ => trivial) hc (by simp only [maxLen]; omega) (by omega) (fact0 h)) allNil)))
      · repeat (first | (with_reducible first | refine Pw.seq ?_ | refine Pw.region ?_ | refine Pw.nil ?_ | refine Pw.then_ ?_ | refine Pw.skip ?_ | refine Pw.block ?_ | refine Pw.exit ?_ | refine Pw.inX ?_ | refine Pw.inN ?_ | refine Pw.inR ?_ | refine Pw.thenX ?_ | refine Pw.thenR ?_ | refine Pw.ret ?_) | refine Pw.list (Pw.pure rfl rfl rfl ?_) | refine Pw.inY rfl ?_ | refine Pw.list (Pw.off rfl rfl ?_) | refine Pw.condT rfl ?_ | refine Pw.condF rfl ?_ | refine Pw.list (Pw.box rfl rfl rfl rfl (fun _ => ?_)) | refine Pw.list (Pw.alloc rfl rfl rfl rfl rfl (fun _ => ?_)) | refine Pw.list (Pw.build rfl rfl rfl rfl ?_) | refine Pw.list (Pw.ld rfl inferInstance rfl rfl rfl ?_) | refine Pw.list (Pw.sto rfl rfl inferInstance rfl rfl rfl rfl rfl inferInstance rfl ?_))
        refine Pw.re (d := 10) (v' := .int .i64 ((j + 1 : Nat) : Int)) rfl (congrArg (Value.int .i64) (i64s (n := 100000) (by omega) (by omega))) ?_
        exact Pw.again (j + 1) ⟨by omega, fun t ht => by
          rcases Nat.lt_or_ge t j with h | h
          · exact hj1 t h
          · obtain rfl : t = j := by omega
            intro z hz; rw [hy] at hz; cases hz; exact hay⟩ (by show l.length - (j + 1) < l.length - j; omega) ⟨rfl, rfl, rfl, rfl, rfl, rfl, rfl, trivial⟩ rfl (fun w h => h)
    · have hj3 : ∀ y, l[j]? = some y → aheadP y p = false := fun y h => by rw [List.getElem?_eq_none (by omega)] at h; cases h
      refine Pw.re (d := 40) (v' := .bool false) rfl (congrArg Value.bool (decide_eq_false (by omega))) ?_
      refine Pw.takeO 5 (nb 16 63) rfl rfl rfl (by kernel_rfl) np sf ?_
      refine Pw.takeO 6 (nb 16 127) rfl rfl rfl (by kernel_rfl) np sf ?_
      refine Pw.takeO 7 (nb 16 255) rfl rfl rfl (by kernel_rfl) np sf ?_
      refine Pw.takeO 8 (nb 16 511) rfl rfl rfl (by kernel_rfl) np sf ?_
      refine Pw.takeO 9 (nb 16 1023) rfl rfl rfl (by kernel_rfl) np sf ?_
      refine Pw.takeO 10 (nb 16 2047) rfl rfl rfl (by kernel_rfl) np sf ?_
      refine Pw.takeO 11 (nb 16 4095) rfl rfl rfl (by kernel_rfl) np sf ?_
      refine Pw.takeO 12 (nb 16 8191) rfl rfl rfl (by kernel_rfl) np sf ?_
      refine Pw.takeO 13 (nb 16 16383) rfl rfl rfl (by kernel_rfl) np sf ?_
      refine Pw.takeO 14 (nb 16 32767) rfl rfl rfl (by kernel_rfl) np sf ?_
      refine Pw.takeP 15 (nb 16 65535) rfl rfl rfl rfl (by kernel_rfl) np sf ?_
      refine Pw.done (by kernel_rfl) ?_
      repeat (first | (with_reducible first | refine Pw.seq ?_ | refine Pw.region ?_ | refine Pw.nil ?_ | refine Pw.then_ ?_ | refine Pw.skip ?_ | refine Pw.block ?_ | refine Pw.exit ?_ | refine Pw.inX ?_ | refine Pw.inN ?_ | refine Pw.inR ?_ | refine Pw.thenX ?_ | refine Pw.thenR ?_ | refine Pw.ret ?_) | refine Pw.list (Pw.pure rfl rfl rfl ?_) | refine Pw.inY rfl ?_ | refine Pw.list (Pw.off rfl rfl ?_) | refine Pw.condT rfl ?_ | refine Pw.condF rfl ?_ | refine Pw.list (Pw.box rfl rfl rfl rfl (fun _ => ?_)) | refine Pw.list (Pw.alloc rfl rfl rfl rfl rfl (fun _ => ?_)) | refine Pw.list (Pw.build rfl rfl rfl rfl ?_) | refine Pw.list (Pw.ld rfl inferInstance rfl rfl rfl ?_) | refine Pw.list (Pw.sto rfl rfl inferInstance rfl rfl rfl rfl rfl inferInstance rfl ?_))
      refine Pw.use (p := l.length ≤ zc) (fun w h => (hv w h : PS l (za, zc) w).le) (fun hlc => ?_)
      refine Pw.list (Pw.cutTo rfl rfl rfl rfl (Int.natCast_nonneg j) (by omega) rfl rfl ?_)
      refine Pw.list (Pw.pushG (s := none) (m := 0) (cells := []) (news := cellsP (l.take j)) (L0 := []) rfl rfl rfl rfl rfl rfl rfl ⟨rfl, rfl⟩ (by rw [cellsP_len, List.length_take, Int.toNat_natCast, Nat.min_eq_left hj2]; rfl) cellsP_one (fun w hs j' u hu => Rows.toCellsE ((hv w hs.all : PS l (za, zc) w).take j) (by omega) j' u hu) (by show 0 < 2; omega) (by simp only [maxLen]; omega) (by show (0 + (j : Int).toNat) * 16 ≤ _; omega) rfl rfl (fun q1 hq1 => ?_))
      rw [Nat.zero_add, List.nil_append, Int.toNat_natCast] at hq1 ⊢
      repeat (first | (with_reducible first | refine Pw.seq ?_ | refine Pw.region ?_ | refine Pw.nil ?_ | refine Pw.then_ ?_ | refine Pw.skip ?_ | refine Pw.block ?_ | refine Pw.exit ?_ | refine Pw.inX ?_ | refine Pw.inN ?_ | refine Pw.inR ?_ | refine Pw.thenX ?_ | refine Pw.thenR ?_ | refine Pw.ret ?_) | refine Pw.list (Pw.pure rfl rfl rfl ?_) | refine Pw.inY rfl ?_ | refine Pw.list (Pw.off rfl rfl ?_) | refine Pw.condT rfl ?_ | refine Pw.condF rfl ?_ | refine Pw.list (Pw.box rfl rfl rfl rfl (fun _ => ?_)) | refine Pw.list (Pw.alloc rfl rfl rfl rfl rfl (fun _ => ?_)) | refine Pw.list (Pw.build rfl rfl rfl rfl ?_) | refine Pw.list (Pw.ld rfl inferInstance rfl rfl rfl ?_) | refine Pw.list (Pw.sto rfl rfl inferInstance rfl rfl rfl rfl rfl inferInstance rfl ?_))
      refine Pw.list (Pw.indexS rfl rfl rfl rfl (Int.natCast_nonneg i) c3 rfl rfl ?_)
      refine Pw.list (Pw.loadR p rfl inferInstance rfl (by rw [Int.toNat_natCast]; exact hp) (by kernel_rfl) rfl rfl ?_)
      refine Pw.re (d := 64) (v' := ptV p) rfl rfl ?_
      refine Pw.list (Pw.lit12 rfl rfl rfl rfl rfl rfl rfl rfl rfl (fun g65 => freeHead ?_))
      refine Pw.list (Pw.push (s := q1) (m := j) (cells := cellsP (l.take j)) (news := encP p) (L0 := []) rfl rfl rfl rfl rfl rfl rfl hq1 rfl (fun u hu => cellsP_one (l := [p]) u (by simpa [cellsP] using hu)) (fun w hs j' u hu => by
        have h1 : w.heap[g65]? = some (row (encP p) 44) := fact0 hs.all
        rw [add_none, cell_of_blk h1]
        simpa [encP] using hu) (by omega) (by simp only [maxLen]; omega) (by show (j + 1) * 16 ≤ _; omega) rfl rfl (fun q2 hq2 => ?_))
      repeat (first | (with_reducible first | refine Pw.seq ?_ | refine Pw.region ?_ | refine Pw.nil ?_ | refine Pw.then_ ?_ | refine Pw.skip ?_ | refine Pw.block ?_ | refine Pw.exit ?_ | refine Pw.inX ?_ | refine Pw.inN ?_ | refine Pw.inR ?_ | refine Pw.thenX ?_ | refine Pw.thenR ?_ | refine Pw.ret ?_) | refine Pw.list (Pw.pure rfl rfl rfl ?_) | refine Pw.inY rfl ?_ | refine Pw.list (Pw.off rfl rfl ?_) | refine Pw.condT rfl ?_ | refine Pw.condF rfl ?_ | refine Pw.list (Pw.box rfl rfl rfl rfl (fun _ => ?_)) | refine Pw.list (Pw.alloc rfl rfl rfl rfl rfl (fun _ => ?_)) | refine Pw.list (Pw.build rfl rfl rfl rfl ?_) | refine Pw.list (Pw.ld rfl inferInstance rfl rfl rfl ?_) | refine Pw.list (Pw.sto rfl rfl inferInstance rfl rfl rfl rfl rfl inferInstance rfl ?_))
      refine Pw.list (Pw.cutA rfl rfl rfl rfl (Int.natCast_nonneg j) (by omega) hlc rfl rfl ?_)
      refine Pw.list (Pw.pushG (s := q2) (m := j + 1) (cells := cellsP (l.take j) ++ encP p) (news := cellsP (l.drop j)) (L0 := []) rfl rfl rfl rfl rfl rfl rfl hq2 (by rw [cellsP_len, List.length_drop, Int.toNat_natCast]; rfl) cellsP_one (fun w hs j' u hu => Rows.toCellsE ((hv w hs.all : PS l (za, zc) w).dropC j) (by omega) j' u hu) (by show 0 < 2; omega) (by simp only [maxLen]; omega) (by show (j + 1 + (l.length - (j : Int).toNat)) * 16 ≤ _; omega) rfl rfl (fun q3 hq3 => ?_))
      have ec : cellsP (l.take j) ++ encP p ++ cellsP (l.drop j) = cellsP (l.take j ++ [p] ++ l.drop j) := by unfold cellsP; simp
      have el : j + 1 + (l.length - (j : Int).toNat) = (l.take j ++ [p] ++ l.drop j).length := by rw [List.length_append, List.length_append, List.length_take, List.length_drop]; simp; omega
      rw [ec, el] at hq3 ⊢
      have hfall' := ins_fall hfall hj1 hj3
      have hperm' : (l.take j ++ [p] ++ l.drop j).Perm (oth.take (i + 1)) := ins_perm.trans (by rw [take_snoc hp]; exact hperm.append_right _)
      obtain ⟨l', hl'⟩ : ∃ l', l' = l.take j ++ [p] ++ l.drop j := ⟨_, rfl⟩
      have hll := congrArg List.length hl'
      rw [List.length_append, List.length_append, List.length_take, List.length_drop, List.length_singleton] at hll
      rw [← hl'] at hq3 hfall' hperm' ⊢
      repeat (first | (with_reducible first | refine Pw.seq ?_ | refine Pw.region ?_ | refine Pw.nil ?_ | refine Pw.then_ ?_ | refine Pw.skip ?_ | refine Pw.block ?_ | refine Pw.exit ?_ | refine Pw.inX ?_ | refine Pw.inN ?_ | refine Pw.inR ?_ | refine Pw.thenX ?_ | refine Pw.thenR ?_ | refine Pw.ret ?_) | refine Pw.list (Pw.pure rfl rfl rfl ?_) | refine Pw.inY rfl ?_ | refine Pw.list (Pw.off rfl rfl ?_) | refine Pw.condT rfl ?_ | refine Pw.condF rfl ?_ | refine Pw.list (Pw.box rfl rfl rfl rfl (fun _ => ?_)) | refine Pw.list (Pw.alloc rfl rfl rfl rfl rfl (fun _ => ?_)) | refine Pw.list (Pw.build rfl rfl rfl rfl ?_) | refine Pw.list (Pw.ld rfl inferInstance rfl rfl rfl ?_) | refine Pw.list (Pw.sto rfl rfl inferInstance rfl rfl rfl rfl rfl inferInstance rfl ?_))
      refine Pw.freeG hq3 (fun A c e hc => ?_)
      refine Pw.re (d := 8) (v' := psV l' (A, c)) rfl e ?_
      refine Pw.re (d := 33) (v' := .int .i64 ((i + 1 : Nat) : Int)) rfl (congrArg (Value.int .i64) (i64s (n := 100000) (by omega) (by omega))) ?_
      exact Pw.again (i + 1, l', (A, c)) ⟨by omega, hfall', hperm'⟩ (by show oth.length - (i + 1) < oth.length - i; omega) ⟨rfl, rfl, rfl, rfl, rfl, trivial⟩ rfl (fun w h => allCons (by first | exact fact0 (h) | exact fact0 (allTail (h)) | exact fact0 (allTail (allTail (h))) | exact fact0 (allTail (allTail (allTail (h)))) | exact fact0 (allTail (allTail (allTail (allTail (h))))) | exact fact0 (allTail (allTail (allTail (allTail (allTail (h)))))) | exact fact0 (allTail (allTail (allTail (allTail (allTail (allTail (h))))))) | exact fact0 (allTail (allTail (allTail (allTail (allTail (allTail (allTail (h)))))))) | exact fact0 (allTail (allTail (allTail (allTail (allTail (allTail (allTail (allTail (h))))))))) | exact fact0 (allTail (allTail (allTail (allTail (allTail (allTail (allTail (allTail (allTail (h))))))))))) (allCons (hv w h) (allCons (rows_of_cells (fun _ _ => rfl) (fun _ _ => trivial) hc (by simp only [maxLen]; omega) (by omega) (fact0 h)) allNil)))
  · obtain rfl : i = oth.length := by omega
    rw [List.take_length] at hperm
    have hls : l = srt oth := fall_srt hfall hperm
    have hpg := pages_pgAt ⟨xi, xc, xo, oth, (A, zc0)⟩ k
    dsimp only at hpg
    rw [← hls] at hpg
    obtain ⟨h, hh⟩ : ∃ h : Pt, h = (xi, xo) := ⟨_, rfl⟩
    rw [← hh] at hpg
    repeat (first | (with_reducible first | refine Pw.seq ?_ | refine Pw.region ?_ | refine Pw.nil ?_ | refine Pw.then_ ?_ | refine Pw.skip ?_ | refine Pw.block ?_ | refine Pw.exit ?_ | refine Pw.inX ?_ | refine Pw.inN ?_ | refine Pw.inR ?_ | refine Pw.thenX ?_ | refine Pw.thenR ?_ | refine Pw.ret ?_) | refine Pw.list (Pw.pure rfl rfl rfl ?_) | refine Pw.inY rfl ?_ | refine Pw.list (Pw.off rfl rfl ?_) | refine Pw.condT rfl ?_ | refine Pw.condF rfl ?_ | refine Pw.list (Pw.box rfl rfl rfl rfl (fun _ => ?_)) | refine Pw.list (Pw.alloc rfl rfl rfl rfl rfl (fun _ => ?_)) | refine Pw.list (Pw.build rfl rfl rfl rfl ?_) | refine Pw.list (Pw.ld rfl inferInstance rfl rfl rfl ?_) | refine Pw.list (Pw.sto rfl rfl inferInstance rfl rfl rfl rfl rfl inferInstance rfl ?_))
    refine Pw.list (Pw.lit12 rfl rfl rfl rfl rfl rfl rfl rfl rfl (fun g78 => ?_))
    refine Pw.list (Pw.lit1 rfl rfl rfl rfl rfl rfl rfl rfl rfl (fun g79 => ?_))
    repeat (first | (with_reducible first | refine Pw.seq ?_ | refine Pw.region ?_ | refine Pw.nil ?_ | refine Pw.then_ ?_ | refine Pw.skip ?_ | refine Pw.block ?_ | refine Pw.exit ?_ | refine Pw.inX ?_ | refine Pw.inN ?_ | refine Pw.inR ?_ | refine Pw.thenX ?_ | refine Pw.thenR ?_ | refine Pw.ret ?_) | refine Pw.list (Pw.pure rfl rfl rfl ?_) | refine Pw.inY rfl ?_ | refine Pw.list (Pw.off rfl rfl ?_) | refine Pw.condT rfl ?_ | refine Pw.condF rfl ?_ | refine Pw.list (Pw.box rfl rfl rfl rfl (fun _ => ?_)) | refine Pw.list (Pw.alloc rfl rfl rfl rfl rfl (fun _ => ?_)) | refine Pw.list (Pw.build rfl rfl rfl rfl ?_) | refine Pw.list (Pw.ld rfl inferInstance rfl rfl rfl ?_) | refine Pw.list (Pw.sto rfl rfl inferInstance rfl rfl rfl rfl rfl inferInstance rfl ?_))
    refine Pw.facts (G' := [PS l (za, zc), HeldAll []]) (fun w h => allCons (hv w h) (allCons (fun p hp => by cases hp) allNil)) ?_
    refine Pw.perm (L' := [⟨g78, row [.int .i64 xi, .int .u64 xo] 44⟩, ⟨g79, row [.slice (some ⟨g78, 0, none⟩) 1 1] 23⟩]) (.swap ..) ?_
    have ec0 : curP h l k 0 0 = [h] := by simp [curP]
    have hJ0 : Jp h l k 0 [] (some (g78, 1, [])) (some (g79, 1, [])) := ⟨by simp, rfl, by show gOk _ (cellsP (curP h l k 0 0)) (curP h l k 0 0).length 2; rw [ec0]; exact ⟨rfl, Nat.le_refl _, rfl⟩, rfl, Nat.le_refl _, rfl⟩
    refine Pw.eqL (L' := gLL (some (g78, 1, [])) (cellsP (curP h l k 0 0)) 44 (some (g79, 1, [])) (outC [] (gv (some (g78, 1, [])) (curP h l k 0 0).length)) 23) (by rw [ec0, hh]; rfl) ?_
    refine Pw.loopJ (σ := Nat × List Pg × Gr × Gr) (fun t => t.1 ≤ l.length ∧ Jp h l k t.1 t.2.1 t.2.2.1 t.2.2.2 ∧ t.1 - t.2.1.length * k ≤ k ∧ (0 < t.2.1.length → t.2.1.length * k < t.1)) (fun t => ⟨[(1, .int .i64 k), (8, psV l (za, zc)), (12, gv t.2.2.2 (t.2.1.length + 1)), (13, .int .i64 ((t.1 - t.2.1.length * k : Nat) : Int)), (81, .int .i64 l.length), (82, .int .i64 t.1)], gLL t.2.2.1 (cellsP (curP h l k t.1 t.2.1.length)) 44 t.2.2.2 (outC t.2.1 (gv t.2.2.1 (curP h l k t.1 t.2.1.length).length)) 23, [PS l (za, zc), HeldAll t.2.1]⟩) (fun t => l.length - t.1) (0, [], some (g78, 1, []), some (g79, 1, [])) ⟨Nat.zero_le _, hJ0, by simp, by simp⟩ (Pw.enter ⟨rfl, rfl, rfl, by simp; rfl, rfl, rfl, trivial⟩ (fun w h => h)) ?_
    rintro ⟨i, dn, q2, q1⟩ ⟨hi, ⟨hD1, hdn, hq2, hq1⟩, hD2, hD3⟩
    dsimp only at hi hD1 hdn hq2 hq1 hD2 hD3 ⊢
    have hcl := cur_len (h := h) (l := l) (k := k) (i := i) (D := dn.length)
    have hDk : dn.length ≤ dn.length * k := Nat.le_mul_of_pos_right _ (by omega)
    repeat (first | (with_reducible first | refine Pw.seq ?_ | refine Pw.region ?_ | refine Pw.nil ?_ | refine Pw.then_ ?_ | refine Pw.skip ?_ | refine Pw.block ?_ | refine Pw.exit ?_ | refine Pw.inX ?_ | refine Pw.inN ?_ | refine Pw.inR ?_ | refine Pw.thenX ?_ | refine Pw.thenR ?_ | refine Pw.ret ?_) | refine Pw.list (Pw.pure rfl rfl rfl ?_) | refine Pw.inY rfl ?_ | refine Pw.list (Pw.off rfl rfl ?_) | refine Pw.condT rfl ?_ | refine Pw.condF rfl ?_ | refine Pw.list (Pw.box rfl rfl rfl rfl (fun _ => ?_)) | refine Pw.list (Pw.alloc rfl rfl rfl rfl rfl (fun _ => ?_)) | refine Pw.list (Pw.build rfl rfl rfl rfl ?_) | refine Pw.list (Pw.ld rfl inferInstance rfl rfl rfl ?_) | refine Pw.list (Pw.sto rfl rfl inferInstance rfl rfl rfl rfl rfl inferInstance rfl ?_))
    refine Pw.condD rfl (fun c3 => ?_) (fun c3 => ?_)
    · obtain ⟨p, hp, _⟩ := get_at (show i < l.length by omega)
      repeat (first | (with_reducible first | refine Pw.seq ?_ | refine Pw.region ?_ | refine Pw.nil ?_ | refine Pw.then_ ?_ | refine Pw.skip ?_ | refine Pw.block ?_ | refine Pw.exit ?_ | refine Pw.inX ?_ | refine Pw.inN ?_ | refine Pw.inR ?_ | refine Pw.thenX ?_ | refine Pw.thenR ?_ | refine Pw.ret ?_) | refine Pw.list (Pw.pure rfl rfl rfl ?_) | refine Pw.inY rfl ?_ | refine Pw.list (Pw.off rfl rfl ?_) | refine Pw.condT rfl ?_ | refine Pw.condF rfl ?_ | refine Pw.list (Pw.box rfl rfl rfl rfl (fun _ => ?_)) | refine Pw.list (Pw.alloc rfl rfl rfl rfl rfl (fun _ => ?_)) | refine Pw.list (Pw.build rfl rfl rfl rfl ?_) | refine Pw.list (Pw.ld rfl inferInstance rfl rfl rfl ?_) | refine Pw.list (Pw.sto rfl rfl inferInstance rfl rfl rfl rfl rfl inferInstance rfl ?_))
      refine Pw.joinF (σ := List Pg × Gr × Gr) (fun t => Jp h l k i t.1 t.2.1 t.2.2 ∧ i - t.1.length * k < k) (fun t => ⟨[(1, .int .i64 k), (8, psV l (za, zc)), (12, gv t.2.2 (t.1.length + 1)), (13, .int .i64 ((i - t.1.length * k : Nat) : Int)), (14, .int .i64 i), (81, .int .i64 l.length), (82, .int .i64 i)], gLL t.2.1 (cellsP (curP h l k i t.1.length)) 44 t.2.2 (outC t.1 (gv t.2.1 (curP h l k i t.1.length).length)) 23, [PS l (za, zc), HeldAll t.1]⟩) ?_ ?_
      · refine Pw.condD rfl (fun c4 => ?_) (fun c4 => ?_)
        · repeat (first | (with_reducible first | refine Pw.seq ?_ | refine Pw.region ?_ | refine Pw.nil ?_ | refine Pw.then_ ?_ | refine Pw.skip ?_ | refine Pw.block ?_ | refine Pw.exit ?_ | refine Pw.inX ?_ | refine Pw.inN ?_ | refine Pw.inR ?_ | refine Pw.thenX ?_ | refine Pw.thenR ?_ | refine Pw.ret ?_) | refine Pw.list (Pw.pure rfl rfl rfl ?_) | refine Pw.inY rfl ?_ | refine Pw.list (Pw.off rfl rfl ?_) | refine Pw.condT rfl ?_ | refine Pw.condF rfl ?_ | refine Pw.list (Pw.box rfl rfl rfl rfl (fun _ => ?_)) | refine Pw.list (Pw.alloc rfl rfl rfl rfl rfl (fun _ => ?_)) | refine Pw.list (Pw.build rfl rfl rfl rfl ?_) | refine Pw.list (Pw.ld rfl inferInstance rfl rfl rfl ?_) | refine Pw.list (Pw.sto rfl rfl inferInstance rfl rfl rfl rfl rfl inferInstance rfl ?_))
          refine Pw.list (Pw.lit1 rfl rfl rfl rfl rfl rfl rfl rfl rfl (fun g89 => freeHead ?_))
          refine Pw.perm List.perm_append_comm ?_
          refine Pw.list (Pw.push (s := q1) (m := dn.length + 1) (cells := outC dn (gv q2 (curP h l k i dn.length).length)) (news := [.slice none 0 0]) (L0 := gL q2 (cellsP (curP h l k i dn.length)) 44) rfl rfl rfl rfl rfl rfl rfl hq1 rfl (fun u hu => by rw [List.mem_singleton.1 hu]; rfl) (fun w hs j u hu => by
            have h1 : w.heap[g89]? = some (row [.slice none 0 0] 23) := fact0 hs.all
            rw [add_none, cell_of_blk h1]
            simpa using hu) (by omega) (by simp only [maxLen]; omega) (by show (dn.length + 1 + 1) * 24 ≤ _; omega) rfl rfl (fun q1' hq1' => ?_))
          repeat (first | (with_reducible first | refine Pw.seq ?_ | refine Pw.region ?_ | refine Pw.nil ?_ | refine Pw.then_ ?_ | refine Pw.skip ?_ | refine Pw.block ?_ | refine Pw.exit ?_ | refine Pw.inX ?_ | refine Pw.inN ?_ | refine Pw.inR ?_ | refine Pw.thenX ?_ | refine Pw.thenR ?_ | refine Pw.ret ?_) | refine Pw.list (Pw.pure rfl rfl rfl ?_) | refine Pw.inY rfl ?_ | refine Pw.list (Pw.off rfl rfl ?_) | refine Pw.condT rfl ?_ | refine Pw.condF rfl ?_ | refine Pw.list (Pw.box rfl rfl rfl rfl (fun _ => ?_)) | refine Pw.list (Pw.alloc rfl rfl rfl rfl rfl (fun _ => ?_)) | refine Pw.list (Pw.build rfl rfl rfl rfl ?_) | refine Pw.list (Pw.ld rfl inferInstance rfl rfl rfl ?_) | refine Pw.list (Pw.sto rfl rfl inferInstance rfl rfl rfl rfl rfl inferInstance rfl ?_))
          refine Pw.perm List.perm_append_comm ?_
          refine Pw.freeG hq2 (fun A' c' e hc => ?_)
          rw [e] at hq1' ⊢
          have e1 : outC dn (.slice A' (curP h l k i dn.length).length c') ++ [.slice none 0 0] = outC (dn ++ [(curP h l k i dn.length, (A', c'))]) (.slice none 0 0) := by unfold outC; rw [cellsPg_snoc]
          rw [e1] at hq1' ⊢
          have el : (dn ++ [(curP h l k i dn.length, (A', c'))]).length = dn.length + 1 := by rw [List.length_append]; rfl
          have hik : i = (dn.length + 1) * k := by rw [Nat.add_mul, Nat.one_mul]; omega
          have ez : curP h l k i (dn.length + 1) = [] := cur_zero hik
          have hJ' : Jp h l k i (dn ++ [(curP h l k i dn.length, (A', c'))]) none q1' := by
            refine ⟨by rw [el]; omega, ?_, by rw [el, ez]; exact ⟨rfl, rfl⟩, by rw [el, ez]; exact hq1'⟩
            rw [el, List.map_append, hdn, List.range_succ, List.map_append]
            show _ ++ [curP h l k i dn.length] = _ ++ [pgAt h l k dn.length]
            rw [cur_full (by omega)]
          refine Pw.re (d := 12) (v' := gv q1' ((dn ++ [(curP h l k i dn.length, (A', c'))]).length + 1)) rfl (by rw [el]) ?_
          refine Pw.re (d := 13) (v' := .int .i64 ((i - (dn ++ [(curP h l k i dn.length, (A', c'))]).length * k : Nat) : Int)) rfl (by rw [el, ← hik, Nat.sub_self]; rfl) ?_
          exact Pw.arrive (dn ++ [(curP h l k i dn.length, (A', c'))], none, q1') ⟨hJ', by show i - _ * k < k; rw [el, ← hik]; omega⟩ ⟨rfl, rfl, rfl, rfl, rfl, rfl, rfl, trivial⟩ (by show _ = gLL none _ _ q1' _ _; rw [el, ez]; rfl) (fun w hw => allCons (hv w hw : PS l (za, zc) w) (allCons (fun p hp => by
            rcases List.mem_append.1 hp with hp | hp
            · exact (hv w hw : HeldAll dn w) p hp
            · rw [List.mem_singleton.1 hp]
              exact rows_of_cells (fun _ _ => rfl) (fun _ _ => trivial) hc (by simp only [maxLen]; omega) (by omega) (fact0 hw)) allNil))
        · repeat (first | (with_reducible first | refine Pw.seq ?_ | refine Pw.region ?_ | refine Pw.nil ?_ | refine Pw.then_ ?_ | refine Pw.skip ?_ | refine Pw.block ?_ | refine Pw.exit ?_ | refine Pw.inX ?_ | refine Pw.inN ?_ | refine Pw.inR ?_ | refine Pw.thenX ?_ | refine Pw.thenR ?_ | refine Pw.ret ?_) | refine Pw.list (Pw.pure rfl rfl rfl ?_) | refine Pw.inY rfl ?_ | refine Pw.list (Pw.off rfl rfl ?_) | refine Pw.condT rfl ?_ | refine Pw.condF rfl ?_ | refine Pw.list (Pw.box rfl rfl rfl rfl (fun _ => ?_)) | refine Pw.list (Pw.alloc rfl rfl rfl rfl rfl (fun _ => ?_)) | refine Pw.list (Pw.build rfl rfl rfl rfl ?_) | refine Pw.list (Pw.ld rfl inferInstance rfl rfl rfl ?_) | refine Pw.list (Pw.sto rfl rfl inferInstance rfl rfl rfl rfl rfl inferInstance rfl ?_))
          exact Pw.arrive (dn, q2, q1) ⟨⟨hD1, hdn, hq2, hq1⟩, by show i - dn.length * k < k; omega⟩ ⟨rfl, rfl, rfl, rfl, rfl, rfl, rfl, trivial⟩ rfl (fun w h => h)
      · clear hDk hcl hD3 hD2 hq1 hq2 hdn hD1
        rintro ⟨dm, r2, r1⟩ ⟨⟨hD1, hdn, hr2, hr1⟩, hD2⟩
        dsimp only at hD1 hD2 hdn hr2 hr1 ⊢
        have hcl := cur_len (h := h) (l := l) (k := k) (i := i) (D := dm.length)
        have hDk : dm.length ≤ dm.length * k := Nat.le_mul_of_pos_right _ (by omega)
        obtain _ | ⟨g1, cap1, ex1⟩ := r1
        · cases hr1.1
        refine Pw.use (p := za.isSome = true) (fun w h => (hv w h : PS l (za, zc) w).has (i := (i : Int)) (by omega) (by omega)) (fun hA => ?_)
        obtain ⟨zd, rfl⟩ := Option.isSome_iff_exists.1 hA
        have hw1 : wrap64 (((dm.length + 1 : Nat) : Int) - 1) = ((dm.length : Nat) : Int) := by rw [wi64 (by omega) (by omega)]; omega
        have hw2 : 0 ≤ wrap64 (((dm.length + 1 : Nat) : Int) - 1) ∧ wrap64 (((dm.length + 1 : Nat) : Int) - 1) < ((dm.length + 1 : Nat) : Int) := by rw [hw1]; omega
        obtain ⟨hw3, hw4⟩ := hw2
        have es := cur_snoc (h := h) (k := k) (D := dm.length) hp hD1
        have ecs : cellsP (curP h l k i dm.length) ++ encP p = cellsP (curP h l k (i + 1) dm.length) := by rw [es, cellsP_snoc]
        have ecl : (curP h l k i dm.length).length + 1 = (curP h l k (i + 1) dm.length).length := by rw [es, List.length_append]; rfl
        obtain ⟨cu, hcu⟩ : ∃ cu, cu = curP h l k i dm.length := ⟨_, rfl⟩
        rw [← hcu] at hr2 hr1 hcl ecs ecl ⊢
        repeat (first | (with_reducible first | refine Pw.seq ?_ | refine Pw.region ?_ | refine Pw.nil ?_ | refine Pw.then_ ?_ | refine Pw.skip ?_ | refine Pw.block ?_ | refine Pw.exit ?_ | refine Pw.inX ?_ | refine Pw.inN ?_ | refine Pw.inR ?_ | refine Pw.thenX ?_ | refine Pw.thenR ?_ | refine Pw.ret ?_) | refine Pw.list (Pw.pure rfl rfl rfl ?_) | refine Pw.inY rfl ?_ | refine Pw.list (Pw.off rfl rfl ?_) | refine Pw.condT rfl ?_ | refine Pw.condF rfl ?_ | refine Pw.list (Pw.box rfl rfl rfl rfl (fun _ => ?_)) | refine Pw.list (Pw.alloc rfl rfl rfl rfl rfl (fun _ => ?_)) | refine Pw.list (Pw.build rfl rfl rfl rfl ?_) | refine Pw.list (Pw.ld rfl inferInstance rfl rfl rfl ?_) | refine Pw.list (Pw.sto rfl rfl inferInstance rfl rfl rfl rfl rfl inferInstance rfl ?_))
        refine Pw.drawnG mixed rfl rfl ?_
        refine Pw.takeP 0 (nb 18 1) rfl rfl rfl rfl (by kernel_rfl) np sf ?_
        refine Pw.takeP 1 (nb 18 3) rfl rfl rfl rfl (by kernel_rfl) np sf ?_
        refine Pw.takeP 2 (nb 18 7) rfl rfl rfl rfl (by kernel_rfl) np sf ?_
        refine Pw.takeP 3 (nb 18 15) rfl rfl rfl rfl (by kernel_rfl) np sf ?_
        refine Pw.takeP 4 (nb 18 31) rfl rfl rfl rfl (by kernel_rfl) np sf ?_
        refine Pw.takeP 5 (nb 18 63) rfl rfl rfl rfl (by kernel_rfl) np sf ?_
        refine Pw.takeP 6 (nb 18 127) rfl rfl rfl rfl (by kernel_rfl) np sf ?_
        refine Pw.takeP 7 (nb 18 255) rfl rfl rfl rfl (by kernel_rfl) np sf ?_
        refine Pw.takeIx 8 (nb 18 511) rfl rfl rfl rfl rfl (by first | assumption | omega) (by first | assumption | omega) rfl rfl (by kernel_rfl) np sf ?_
        refine Pw.takeP 10 (nb 18 1535) rfl rfl rfl rfl (by kernel_rfl) np sf ?_
        refine Pw.takeP 11 (nb 18 3583) rfl rfl rfl rfl (by kernel_rfl) np sf ?_
        refine Pw.takeIx 12 (nb 18 7679) rfl rfl rfl rfl rfl (by first | assumption | omega) (by first | assumption | omega) rfl rfl (by kernel_rfl) np sf ?_
        refine Pw.two 9 13 (nb 18 8191) (nb 18 15871) rfl rfl (by kernel_rfl) ?_ ?_
        · skip
          refine Pw.load1 (v := gv r2 cu.length) rfl rfl (fun w hs => by
            have hb : w.heap[g1]? = some (row (outC dm (gv r2 cu.length) ++ ex1) 23) := hs.own _ (List.mem_append_right _ (.head _))
            show w.cell? (Addr.add ⟨g1, 0, none⟩ ((wrap64 (((dm.length + 1 : Nat) : Int) - 1)).toNat * 1)) = _
            rw [hw1, Int.toNat_natCast, Nat.mul_one, add_none, Nat.zero_add, cell_of_blk hb, outC_get]) rfl rfl ?_
          refine Pw.held sf ?_
          refine Pw.one 13 (nb 18 16383) rfl (by kernel_rfl) ?_
          refine Pw.loadR p rfl inferInstance rfl (by rw [Int.toNat_natCast]; exact hp) (by kernel_rfl) rfl rfl ?_
          refine Pw.re (d := 104) (v' := ptV p) rfl rfl ?_
          refine Pw.held sf ?_
          refine Pw.one 14 (nb 18 32767) rfl (by kernel_rfl) ?_
          refine Pw.lit12 rfl rfl rfl rfl rfl rfl rfl rfl rfl (fun g5 => freeHead ?_)
          refine Pw.held sf ?_
          refine Pw.one 15 (nb 18 65535) rfl (by kernel_rfl) ?_
          refine Pw.push (s := r2) (m := cu.length) (cells := cellsP cu) (news := encP p) (L0 := gL (some (g1, cap1, ex1)) (outC dm (gv r2 cu.length)) 23) rfl rfl rfl rfl rfl rfl rfl hr2 rfl (fun u hu => cellsP_one (l := [p]) u (by simpa [cellsP] using hu)) (fun w hs j' u hu => by
            have h1 : w.heap[g5]? = some (row (encP p) 44) := by first | exact fact0 hs.all | exact fact1 hs.all | exact fact2 hs.all
            rw [add_none, cell_of_blk h1]
            simpa [encP] using hu) (by omega) (by simp only [maxLen]; omega) (by show (cu.length + 1) * 16 ≤ _; omega) rfl rfl (fun r2' hr2' => ?_)
          rw [ecs, ecl] at hr2' ⊢
          refine Pw.held sf ?_
          refine Pw.takeIx 16 (nb 18 131071) rfl rfl rfl rfl rfl (by first | assumption | omega) (by first | assumption | omega) rfl rfl (by kernel_rfl) np sf ?_
          refine Pw.one 17 (nb 18 262143) rfl (by kernel_rfl) ?_
          refine Pw.perm List.perm_append_comm ?_
          refine Pw.re (d := 107) (v' := .pointer (some ⟨g1, dm.length, none⟩)) rfl (by show Value.pointer (some (Addr.add ⟨g1, 0, none⟩ ((wrap64 (((dm.length + 1 : Nat) : Int) - 1)).toNat * 1))) = _; rw [hw1, Int.toNat_natCast, Nat.mul_one, add_none, Nat.zero_add]) ?_
          refine Pw.storeO (cs := outC dm (gv r2 cu.length) ++ ex1) (cs' := outC dm (gv r2' (curP h l k (i + 1) dm.length).length) ++ ex1) rfl rfl rfl rfl (by cases r2' <;> rfl) (by rw [List.length_append, outC_len]; omega) (outC_set ..) .head rfl ?_
          refine Pw.perm (L' := gLL r2' (cellsP (curP h l k (i + 1) dm.length)) 44 (some (g1, cap1, ex1)) (outC dm (gv r2' (curP h l k (i + 1) dm.length).length)) 23) permHead ?_
          refine Pw.held sf ?_
          refine Pw.done (by kernel_rfl) ?_
          repeat (first | (with_reducible first | refine Pw.seq ?_ | refine Pw.region ?_ | refine Pw.nil ?_ | refine Pw.then_ ?_ | refine Pw.skip ?_ | refine Pw.block ?_ | refine Pw.exit ?_ | refine Pw.inX ?_ | refine Pw.inN ?_ | refine Pw.inR ?_ | refine Pw.thenX ?_ | refine Pw.thenR ?_ | refine Pw.ret ?_) | refine Pw.list (Pw.pure rfl rfl rfl ?_) | refine Pw.inY rfl ?_ | refine Pw.list (Pw.off rfl rfl ?_) | refine Pw.condT rfl ?_ | refine Pw.condF rfl ?_ | refine Pw.list (Pw.box rfl rfl rfl rfl (fun _ => ?_)) | refine Pw.list (Pw.alloc rfl rfl rfl rfl rfl (fun _ => ?_)) | refine Pw.list (Pw.build rfl rfl rfl rfl ?_) | refine Pw.list (Pw.ld rfl inferInstance rfl rfl rfl ?_) | refine Pw.list (Pw.sto rfl rfl inferInstance rfl rfl rfl rfl rfl inferInstance rfl ?_))
          refine Pw.re (d := 13) (v' := .int .i64 ((i + 1 - dm.length * k : Nat) : Int)) rfl (congrArg (Value.int .i64) (by rw [wi64 (by omega) (by omega)]; omega)) ?_
          refine Pw.re (d := 82) (v' := .int .i64 ((i + 1 : Nat) : Int)) rfl (congrArg (Value.int .i64) (i64s (n := 100000) (by omega) (by omega))) ?_
          exact Pw.again (i + 1, dm, r2', some (g1, cap1, ex1)) ⟨by omega, ⟨by show dm.length * k ≤ i + 1; omega, hdn, hr2', outC_ok hr1⟩, by show i + 1 - dm.length * k ≤ k; omega, fun _ => by show dm.length * k < i + 1; omega⟩ (by show l.length - (i + 1) < l.length - i; omega) ⟨rfl, rfl, rfl, rfl, rfl, rfl, trivial⟩ rfl (fun w h => allCons (hv w h) (allCons (hv w h) allNil))
        · skip
          refine Pw.loadR p rfl inferInstance rfl (by rw [Int.toNat_natCast]; exact hp) (by kernel_rfl) rfl rfl ?_
          refine Pw.re (d := 104) (v' := ptV p) rfl rfl ?_
          refine Pw.held sf ?_
          refine Pw.two 9 14 (nb 18 16383) (nb 18 32255) rfl rfl (by kernel_rfl) ?_ ?_
          · skip
            refine Pw.load1 (v := gv r2 cu.length) rfl rfl (fun w hs => by
              have hb : w.heap[g1]? = some (row (outC dm (gv r2 cu.length) ++ ex1) 23) := hs.own _ (List.mem_append_right _ (.head _))
              show w.cell? (Addr.add ⟨g1, 0, none⟩ ((wrap64 (((dm.length + 1 : Nat) : Int) - 1)).toNat * 1)) = _
              rw [hw1, Int.toNat_natCast, Nat.mul_one, add_none, Nat.zero_add, cell_of_blk hb, outC_get]) rfl rfl ?_
            refine Pw.held sf ?_
            refine Pw.one 14 (nb 18 32767) rfl (by kernel_rfl) ?_
            refine Pw.lit12 rfl rfl rfl rfl rfl rfl rfl rfl rfl (fun g5 => freeHead ?_)
            refine Pw.held sf ?_
            refine Pw.one 15 (nb 18 65535) rfl (by kernel_rfl) ?_
            refine Pw.push (s := r2) (m := cu.length) (cells := cellsP cu) (news := encP p) (L0 := gL (some (g1, cap1, ex1)) (outC dm (gv r2 cu.length)) 23) rfl rfl rfl rfl rfl rfl rfl hr2 rfl (fun u hu => cellsP_one (l := [p]) u (by simpa [cellsP] using hu)) (fun w hs j' u hu => by
              have h1 : w.heap[g5]? = some (row (encP p) 44) := by first | exact fact0 hs.all | exact fact1 hs.all | exact fact2 hs.all
              rw [add_none, cell_of_blk h1]
              simpa [encP] using hu) (by omega) (by simp only [maxLen]; omega) (by show (cu.length + 1) * 16 ≤ _; omega) rfl rfl (fun r2' hr2' => ?_)
            rw [ecs, ecl] at hr2' ⊢
            refine Pw.held sf ?_
            refine Pw.takeIx 16 (nb 18 131071) rfl rfl rfl rfl rfl (by first | assumption | omega) (by first | assumption | omega) rfl rfl (by kernel_rfl) np sf ?_
            refine Pw.one 17 (nb 18 262143) rfl (by kernel_rfl) ?_
            refine Pw.perm List.perm_append_comm ?_
            refine Pw.re (d := 107) (v' := .pointer (some ⟨g1, dm.length, none⟩)) rfl (by show Value.pointer (some (Addr.add ⟨g1, 0, none⟩ ((wrap64 (((dm.length + 1 : Nat) : Int) - 1)).toNat * 1))) = _; rw [hw1, Int.toNat_natCast, Nat.mul_one, add_none, Nat.zero_add]) ?_
            refine Pw.storeO (cs := outC dm (gv r2 cu.length) ++ ex1) (cs' := outC dm (gv r2' (curP h l k (i + 1) dm.length).length) ++ ex1) rfl rfl rfl rfl (by cases r2' <;> rfl) (by rw [List.length_append, outC_len]; omega) (outC_set ..) .head rfl ?_
            refine Pw.perm (L' := gLL r2' (cellsP (curP h l k (i + 1) dm.length)) 44 (some (g1, cap1, ex1)) (outC dm (gv r2' (curP h l k (i + 1) dm.length).length)) 23) permHead ?_
            refine Pw.held sf ?_
            refine Pw.done (by kernel_rfl) ?_
            repeat (first | (with_reducible first | refine Pw.seq ?_ | refine Pw.region ?_ | refine Pw.nil ?_ | refine Pw.then_ ?_ | refine Pw.skip ?_ | refine Pw.block ?_ | refine Pw.exit ?_ | refine Pw.inX ?_ | refine Pw.inN ?_ | refine Pw.inR ?_ | refine Pw.thenX ?_ | refine Pw.thenR ?_ | refine Pw.ret ?_) | refine Pw.list (Pw.pure rfl rfl rfl ?_) | refine Pw.inY rfl ?_ | refine Pw.list (Pw.off rfl rfl ?_) | refine Pw.condT rfl ?_ | refine Pw.condF rfl ?_ | refine Pw.list (Pw.box rfl rfl rfl rfl (fun _ => ?_)) | refine Pw.list (Pw.alloc rfl rfl rfl rfl rfl (fun _ => ?_)) | refine Pw.list (Pw.build rfl rfl rfl rfl ?_) | refine Pw.list (Pw.ld rfl inferInstance rfl rfl rfl ?_) | refine Pw.list (Pw.sto rfl rfl inferInstance rfl rfl rfl rfl rfl inferInstance rfl ?_))
            refine Pw.re (d := 13) (v' := .int .i64 ((i + 1 - dm.length * k : Nat) : Int)) rfl (congrArg (Value.int .i64) (by rw [wi64 (by omega) (by omega)]; omega)) ?_
            refine Pw.re (d := 82) (v' := .int .i64 ((i + 1 : Nat) : Int)) rfl (congrArg (Value.int .i64) (i64s (n := 100000) (by omega) (by omega))) ?_
            exact Pw.again (i + 1, dm, r2', some (g1, cap1, ex1)) ⟨by omega, ⟨by show dm.length * k ≤ i + 1; omega, hdn, hr2', outC_ok hr1⟩, by show i + 1 - dm.length * k ≤ k; omega, fun _ => by show dm.length * k < i + 1; omega⟩ (by show l.length - (i + 1) < l.length - i; omega) ⟨rfl, rfl, rfl, rfl, rfl, rfl, trivial⟩ rfl (fun w h => allCons (hv w h) (allCons (hv w h) allNil))
          · skip
            refine Pw.lit12 rfl rfl rfl rfl rfl rfl rfl rfl rfl (fun g5 => freeHead ?_)
            refine Pw.held sf ?_
            refine Pw.one 9 (nb 18 32767) rfl (by kernel_rfl) ?_
            refine Pw.load1 (v := gv r2 cu.length) rfl rfl (fun w hs => by
              have hb : w.heap[g1]? = some (row (outC dm (gv r2 cu.length) ++ ex1) 23) := hs.own _ (List.mem_append_right _ (.head _))
              show w.cell? (Addr.add ⟨g1, 0, none⟩ ((wrap64 (((dm.length + 1 : Nat) : Int) - 1)).toNat * 1)) = _
              rw [hw1, Int.toNat_natCast, Nat.mul_one, add_none, Nat.zero_add, cell_of_blk hb, outC_get]) rfl rfl ?_
            refine Pw.held sf ?_
            refine Pw.one 15 (nb 18 65535) rfl (by kernel_rfl) ?_
            refine Pw.push (s := r2) (m := cu.length) (cells := cellsP cu) (news := encP p) (L0 := gL (some (g1, cap1, ex1)) (outC dm (gv r2 cu.length)) 23) rfl rfl rfl rfl rfl rfl rfl hr2 rfl (fun u hu => cellsP_one (l := [p]) u (by simpa [cellsP] using hu)) (fun w hs j' u hu => by
              have h1 : w.heap[g5]? = some (row (encP p) 44) := by first | exact fact0 hs.all | exact fact1 hs.all | exact fact2 hs.all
              rw [add_none, cell_of_blk h1]
              simpa [encP] using hu) (by omega) (by simp only [maxLen]; omega) (by show (cu.length + 1) * 16 ≤ _; omega) rfl rfl (fun r2' hr2' => ?_)
            rw [ecs, ecl] at hr2' ⊢
            refine Pw.held sf ?_
            refine Pw.takeIx 16 (nb 18 131071) rfl rfl rfl rfl rfl (by first | assumption | omega) (by first | assumption | omega) rfl rfl (by kernel_rfl) np sf ?_
            refine Pw.one 17 (nb 18 262143) rfl (by kernel_rfl) ?_
            refine Pw.perm List.perm_append_comm ?_
            refine Pw.re (d := 107) (v' := .pointer (some ⟨g1, dm.length, none⟩)) rfl (by show Value.pointer (some (Addr.add ⟨g1, 0, none⟩ ((wrap64 (((dm.length + 1 : Nat) : Int) - 1)).toNat * 1))) = _; rw [hw1, Int.toNat_natCast, Nat.mul_one, add_none, Nat.zero_add]) ?_
            refine Pw.storeO (cs := outC dm (gv r2 cu.length) ++ ex1) (cs' := outC dm (gv r2' (curP h l k (i + 1) dm.length).length) ++ ex1) rfl rfl rfl rfl (by cases r2' <;> rfl) (by rw [List.length_append, outC_len]; omega) (outC_set ..) .head rfl ?_
            refine Pw.perm (L' := gLL r2' (cellsP (curP h l k (i + 1) dm.length)) 44 (some (g1, cap1, ex1)) (outC dm (gv r2' (curP h l k (i + 1) dm.length).length)) 23) permHead ?_
            refine Pw.held sf ?_
            refine Pw.done (by kernel_rfl) ?_
            repeat (first | (with_reducible first | refine Pw.seq ?_ | refine Pw.region ?_ | refine Pw.nil ?_ | refine Pw.then_ ?_ | refine Pw.skip ?_ | refine Pw.block ?_ | refine Pw.exit ?_ | refine Pw.inX ?_ | refine Pw.inN ?_ | refine Pw.inR ?_ | refine Pw.thenX ?_ | refine Pw.thenR ?_ | refine Pw.ret ?_) | refine Pw.list (Pw.pure rfl rfl rfl ?_) | refine Pw.inY rfl ?_ | refine Pw.list (Pw.off rfl rfl ?_) | refine Pw.condT rfl ?_ | refine Pw.condF rfl ?_ | refine Pw.list (Pw.box rfl rfl rfl rfl (fun _ => ?_)) | refine Pw.list (Pw.alloc rfl rfl rfl rfl rfl (fun _ => ?_)) | refine Pw.list (Pw.build rfl rfl rfl rfl ?_) | refine Pw.list (Pw.ld rfl inferInstance rfl rfl rfl ?_) | refine Pw.list (Pw.sto rfl rfl inferInstance rfl rfl rfl rfl rfl inferInstance rfl ?_))
            refine Pw.re (d := 13) (v' := .int .i64 ((i + 1 - dm.length * k : Nat) : Int)) rfl (congrArg (Value.int .i64) (by rw [wi64 (by omega) (by omega)]; omega)) ?_
            refine Pw.re (d := 82) (v' := .int .i64 ((i + 1 : Nat) : Int)) rfl (congrArg (Value.int .i64) (i64s (n := 100000) (by omega) (by omega))) ?_
            exact Pw.again (i + 1, dm, r2', some (g1, cap1, ex1)) ⟨by omega, ⟨by show dm.length * k ≤ i + 1; omega, hdn, hr2', outC_ok hr1⟩, by show i + 1 - dm.length * k ≤ k; omega, fun _ => by show dm.length * k < i + 1; omega⟩ (by show l.length - (i + 1) < l.length - i; omega) ⟨rfl, rfl, rfl, rfl, rfl, rfl, trivial⟩ rfl (fun w h => allCons (hv w h) (allCons (hv w h) allNil))
    · obtain rfl : i = l.length := by omega
      have hnc := nCh_is (k := k) (n := l.length) (D := dn.length) (by omega) hD2 hD3
      rw [show oth.length = l.length by omega, hnc] at hpg
      rw [hpg]
      have eD : curP h l k l.length dn.length = pgAt h l k dn.length := cur_last hD2
      repeat (first | (with_reducible first | refine Pw.seq ?_ | refine Pw.region ?_ | refine Pw.nil ?_ | refine Pw.then_ ?_ | refine Pw.skip ?_ | refine Pw.block ?_ | refine Pw.exit ?_ | refine Pw.inX ?_ | refine Pw.inN ?_ | refine Pw.inR ?_ | refine Pw.thenX ?_ | refine Pw.thenR ?_ | refine Pw.ret ?_) | refine Pw.list (Pw.pure rfl rfl rfl ?_) | refine Pw.inY rfl ?_ | refine Pw.list (Pw.off rfl rfl ?_) | refine Pw.condT rfl ?_ | refine Pw.condF rfl ?_ | refine Pw.list (Pw.box rfl rfl rfl rfl (fun _ => ?_)) | refine Pw.list (Pw.alloc rfl rfl rfl rfl rfl (fun _ => ?_)) | refine Pw.list (Pw.build rfl rfl rfl rfl ?_) | refine Pw.list (Pw.ld rfl inferInstance rfl rfl rfl ?_) | refine Pw.list (Pw.sto rfl rfl inferInstance rfl rfl rfl rfl rfl inferInstance rfl ?_))
      refine Pw.freeG hq2 (fun A' c' e hc => ?_)
      rw [e] at hq1 ⊢
      have e1 : outC dn (.slice A' (curP h l k l.length dn.length).length c') = cellsPg (dn ++ [(curP h l k l.length dn.length, (A', c'))]) := by unfold outC; rw [cellsPg_snoc]
      rw [e1] at hq1 ⊢
      refine Pw.eqL (L' := gL q1 (cellsPg (dn ++ [(curP h l k l.length dn.length, (A', c'))])) 23 ++ []) (by simp) ?_
      refine Pw.freeG hq1 (fun B cb eB hcb => ?_)
      refine Pw.re (d := 4) (v' := .slice B (dn.length + 1) cb) rfl eB ?_
      exact Pw.ret_ (x := (dn ++ [(curP h l k l.length dn.length, (A', c'))], (B, cb))) (.tmp rfl (.tmp rfl .nil)) (by rw [List.length_map, List.length_range, Nat.add_comm]; rfl) (by rw [List.map_append, hdn, Nat.add_comm 1, List.range_succ, List.map_append, List.map_singleton, List.map_singleton, ← eD]) (fun w hw => rows_of_cells (fun _ _ => rfl) (fun y hy => by
        rcases List.mem_append.1 hy with hy | hy
        · exact (hv w hw : HeldAll dn w) y hy
        · rw [List.mem_singleton.1 hy]
          exact rows_of_cells (fun _ _ => rfl) (fun _ _ => trivial) hc (by simp only [maxLen]; omega) (by omega) (fact1 hw)) (by rw [List.length_append]; exact hcb) (by rw [List.length_append, List.length_singleton]; simp only [maxLen]; omega) (by omega) (fact0 hw))
end Go.Proofs.Wk
/- PayoutWhole. -/
namespace Go.Proofs.Wk
open Go.RowKit
set_option maxRecDepth 100000
set_option maxHeartbeats 8000000
attribute [local irreducible] Pw OpG
set_option linter.unusedVariables false
set_option linter.unusedSimpArgs false
theorem slots5 {u u1 u2 u3 u4 : Value} : ∀ d v, lk [(0, u), (1, u1), (2, u2), (3, u3), (4, u4)] d = some v → [u, u1, u2, u3, u4][d]? = some v := fun d v h => by
  rcases slots_cons (l := []) d v h with ⟨rfl, rfl⟩ | h
  · rfl
  rcases slots_cons (l := []) d v h with ⟨rfl, rfl⟩ | h
  · rfl
  rcases slots_cons (l := []) d v h with ⟨rfl, rfl⟩ | h
  · rfl
  rcases slots_cons (l := []) d v h with ⟨rfl, rfl⟩ | h
  · rfl
  rcases slots_cons (l := []) d v h with ⟨rfl, rfl⟩ | h
  · rfl
  · cases h
theorem PayoutWhole_ct (a : Int) (xs : List Ex) (xz : Option Addr × Nat) (ps : List Int) (y : Option Addr × Nat) (s t : Int) (ha : U64 a) (hxs : ∀ x ∈ xs, ExW x) (hps : ∀ p ∈ ps, U64 p) (hs : 0 ≤ s ∧ s ≤ 255) (ht : 0 ≤ t ∧ t ≤ 255) :
    Ct Try.prog 4 #[.int .u64 a, xsV xs xz, sl ps y, .int .u8 s, .int .u8 t] (fun W => XS xs xz W ∧ U1 ps y W) (fun _ : Unit => .bool true) Tt (fun _ _ => True) := by
  obtain ⟨A, c⟩ := xz
  refine Ct.start Try.func4 rfl rfl (slots_of rfl slots5) (fun D w0 => Pw.facts (G' := [XS xs (A, c), U1 ps y]) (fun w h => allCons (fact0 h).1 (allCons (fact0 h).2 allNil)) ?_)
  repeat (first | refine Pw.runs ?_ | refine Pw.list (Pw.box rfl rfl rfl rfl (fun _ => ?_)) | refine Pw.list (Pw.alloc rfl rfl rfl rfl rfl (fun _ => ?_)))
  refine Pw.list (Pw.call poAwake_ct rfl rfl rfl (by kernel_rfl) rfl rfl (fun w h => trivial) ?_)
  intro _ _
  repeat (first | refine Pw.runs ?_ | refine Pw.list (Pw.box rfl rfl rfl rfl (fun _ => ?_)) | refine Pw.list (Pw.alloc rfl rfl rfl rfl rfl (fun _ => ?_)))
  refine Pw.list (Pw.call (poFew_ct xs (A, c)) rfl rfl rfl (by kernel_rfl) rfl rfl (fun w h => (hv w h)) ?_)
  intro r hr
  cases r
  · repeat (first | refine Pw.runs ?_ | refine Pw.list (Pw.box rfl rfl rfl rfl (fun _ => ?_)) | refine Pw.list (Pw.alloc rfl rfl rfl rfl rfl (fun _ => ?_)))
    refine Pw.list (Pw.call poAwake_ct rfl rfl rfl (by kernel_rfl) rfl rfl (fun w h => trivial) ?_)
    intro _ _
    repeat (first | refine Pw.runs ?_ | refine Pw.list (Pw.box rfl rfl rfl rfl (fun _ => ?_)) | refine Pw.list (Pw.alloc rfl rfl rfl rfl rfl (fun _ => ?_)))
    exact Pw.ret_ (x := ()) (.tmp rfl .nil) rfl trivial (fun w h => by trivial)
  obtain ⟨hn, hl⟩ := hr rfl
  clear hr
  repeat (first | refine Pw.runs ?_ | refine Pw.list (Pw.box rfl rfl rfl rfl (fun _ => ?_)) | refine Pw.list (Pw.alloc rfl rfl rfl rfl rfl (fun _ => ?_)))
  refine Pw.condD rfl (fun c1 => ?_) (fun c1 => ?_)
  · repeat (first | refine Pw.runs ?_ | refine Pw.list (Pw.box rfl rfl rfl rfl (fun _ => ?_)) | refine Pw.list (Pw.alloc rfl rfl rfl rfl rfl (fun _ => ?_)))
    refine Pw.list (Pw.call poAwake_ct rfl rfl rfl (by kernel_rfl) rfl rfl (fun w h => trivial) ?_)
    intro _ _
    repeat (first | refine Pw.runs ?_ | refine Pw.list (Pw.box rfl rfl rfl rfl (fun _ => ?_)) | refine Pw.list (Pw.alloc rfl rfl rfl rfl rfl (fun _ => ?_)))
    exact Pw.ret_ (x := ()) (.tmp rfl .nil) rfl trivial (fun w h => by trivial)
  obtain ⟨k, hk⟩ : ∃ k : Nat, 1 + s.tmod 32 = (k : Int) ∧ 1 ≤ k ∧ k ≤ 32 := by
    have h1 := Int.tmod_nonneg 32 hs.1
    have h2 := Int.tmod_lt_of_pos s (show (0 : Int) < 32 by omega)
    exact ⟨(1 + s.tmod 32).toNat, by omega⟩
  obtain ⟨hk, hk1, hk2⟩ := hk
  have hX : XW xs := ⟨hxs, fun x hx => by have := hl x hx; omega, by omega⟩
  repeat (first | refine Pw.runs ?_ | refine Pw.list (Pw.box rfl rfl rfl rfl (fun _ => ?_)) | refine Pw.list (Pw.alloc rfl rfl rfl rfl rfl (fun _ => ?_)))
  refine Pw.list (Pw.call (poTheirs_ct xs (A, c) (by omega)) rfl rfl rfl (by kernel_rfl) rfl rfl (fun w h => (hv w h)) ?_)
  intro z _
  repeat (first | refine Pw.runs ?_ | refine Pw.list (Pw.box rfl rfl rfl rfl (fun _ => ?_)) | refine Pw.list (Pw.alloc rfl rfl rfl rfl rfl (fun _ => ?_)))
  refine Pw.re (d := 51) (v' := .int .i64 (k : Int)) rfl (congrArg (Value.int .i64) (by rw [← hk]; have h1 := Int.tmod_nonneg 32 hs.1; have h2 := Int.tmod_lt_of_pos s (show (0 : Int) < 32 by omega); rw [wi64 (n := s.tmod 32) (by omega) (by omega)]; exact wi64 (by omega) (by omega))) ?_
  refine Pw.list (Pw.callB (L0 := []) (poNew_ct a xs z ps y (k : Int) ha hX hps (by omega)) rfl rfl rfl rfl (by kernel_rfl) rfl rfl (fun w h => ⟨(hv w h : XS xs z w), (hv w h)⟩) ?_)
  rintro (_ | ⟨gr, ga, st0⟩) hR
  · dsimp only at hR ⊢
    repeat (first | refine Pw.runs ?_ | refine Pw.list (Pw.box rfl rfl rfl rfl (fun _ => ?_)) | refine Pw.list (Pw.alloc rfl rfl rfl rfl rfl (fun _ => ?_)))
    refine Pw.condD rfl (fun c1 => ?_) (fun c1 => ?_)
    · repeat (first | refine Pw.runs ?_ | refine Pw.list (Pw.box rfl rfl rfl rfl (fun _ => ?_)) | refine Pw.list (Pw.alloc rfl rfl rfl rfl rfl (fun _ => ?_)))
      exact Pw.ret_ (x := ()) (.tmp rfl .nil) rfl trivial (fun w h => by trivial)
    · exact absurd (by omega) hR
  obtain ⟨he, hN⟩ := hR
  replace hN : NewOk (k : Int).toNat a xs ps xs.length st0 := hN
  obtain ⟨hw0, hu0⟩ := new_all hN he ha hX hps
  have hids := new_ids hN (newErr_ok he).2.2.2
  have htot := new_total hN he ha hX hps
  have hlen : st0.length = xs.length := hN.1
  have hR : ∀ x ∈ xs, pagesR x (k : Int) = (pagesS x k, 0) := fun x hx => by
    have htx : (totX x).2 = 0 := by
      have h1 := he
      unfold newErr at h1
      rw [if_neg (by have := newErr_ok he; simp only [not_or]; exact ⟨by omega, by omega, by omega, by rw [this.2.2.2]; decide⟩)] at h1
      split at h1
      next ht =>
        unfold totOk at ht
        simpa using List.all_eq_true.1 ht x hx
      next => cases h1
    have hfx := (okX_ok (newErr_ok he).2.2.2).1 x hx
    unfold pagesR; rw [if_neg (by rw [hfx]; simp; omega), if_neg (by rw [htx]; simp), Int.toNat_natCast]
  have hso0 : So st0 st0 (fun j p => j ∈ (List.range 0).map (ordN xs.length t.toNat)) := ⟨rfl, hw0, fun j s p hj hp => by
    obtain ⟨x, sh, _, _, hne⟩ := new_ne hN he ha hX hps hj
    rw [hne.fr p hp]; simp⟩
  dsimp only
  have hle : 0 ≤ leftTo (k : Int).toNat a xs ps xs.length ∧ leftTo (k : Int).toNat a xs ps xs.length ≤ a := by have := lefts_ok (k := (k : Int).toNat) ha hX hps (newErr_ok he).2.2.1 xs.length; exact ⟨this.1, this.2.1⟩
  generalize leftTo (k : Int).toNat a xs ps xs.length = left at htot hle
  repeat (first | refine Pw.runs ?_ | refine Pw.list (Pw.box rfl rfl rfl rfl (fun _ => ?_)) | refine Pw.list (Pw.alloc rfl rfl rfl rfl rfl (fun _ => ?_)))
  refine Pw.list (Pw.call (poLeft_ct gr ga left st0) rfl rfl rfl (by kernel_rfl) rfl rfl (fun w h => (fact0 h)) ?_)
  intro _ _
  repeat (first | refine Pw.runs ?_ | refine Pw.list (Pw.box rfl rfl rfl rfl (fun _ => ?_)) | refine Pw.list (Pw.alloc rfl rfl rfl rfl rfl (fun _ => ?_)))
  refine Pw.re (d := 13) (v' := .int .u64 (IntKind.u64.wrap (left + sumL (buT st0) ((List.range 0).map (ordN xs.length t.toNat))))) rfl (congrArg (Value.int .u64) (by
    show left = IntKind.u64.wrap (left + 0)
    rw [Int.add_zero]
    have h1 : 0 ≤ sumL (buT st0) (List.range st0.length) := sumL_nonneg fun j _ => by
      unfold buT
      cases hj : st0[j]? with
      | none => exact Int.le_refl _
      | some s => exact lsum_nonneg (hu0 s (List.mem_of_getElem? hj)).b
    have h2 := ha.2
    exact (wu hle.1 (by omega)).symm)) ?_
  refine Pw.eqL (L' := rwL st0) (List.append_nil _) ?_
  refine Pw.loopJ (σ := Nat × Sr) (fun u => u.1 ≤ xs.length ∧ So st0 u.2 (fun j p => j ∈ (List.range u.1).map (ordN xs.length t.toNat))) (fun u => ⟨[(0, .int .u64 a), (1, .slice A xs.length c), (3, .int .u8 s), (4, .int .u8 t), (11, .pointer (some ⟨gr, 0, none⟩)), (13, .int .u64 (IntKind.u64.wrap (left + sumL (buT st0) ((List.range u.1).map (ordN xs.length t.toNat))))), (60, .int .i64 xs.length), (61, .int .i64 u.1)], rwL u.2, [rwF gr ga left st0, XS xs (A, c)]⟩) (fun u => xs.length - u.1) (0, st0) ⟨Nat.zero_le _, hso0⟩ (by
    intro X h
    dsimp only at h
    refine Pw.enter ?_ ?_ X h
    · exact ⟨rfl, rfl, rfl, rfl, rfl, rfl, rfl, rfl, trivial⟩
    · exact fun w h => allCons (fact1 h) (allCons (hv w h) allNil)) ?_
  rintro ⟨i, st⟩ ⟨hi, hso⟩
  dsimp only at hi hso ⊢
  repeat (first | refine Pw.runs ?_ | refine Pw.list (Pw.box rfl rfl rfl rfl (fun _ => ?_)) | refine Pw.list (Pw.alloc rfl rfl rfl rfl rfl (fun _ => ?_)))
  refine Pw.condD rfl (fun c3 => ?_) (fun c3 => ?_)
  · repeat (first | refine Pw.runs ?_ | refine Pw.list (Pw.box rfl rfl rfl rfl (fun _ => ?_)) | refine Pw.list (Pw.alloc rfl rfl rfl rfl rfl (fun _ => ?_)))
    obtain ⟨T, hT⟩ : ∃ T : Nat, t = (T : Int) := ⟨t.toNat, by omega⟩
    have hTt : t.toNat = T := by omega
    refine Pw.list (Pw.rem rfl rfl rfl (by omega) rfl rfl ?_)
    have hjl : ordN xs.length t.toNat i < xs.length := ordN_lt i (by omega)
    refine Pw.re (d := 71) (v' := .int .i64 ((ordN xs.length t.toNat i : Nat) : Int)) rfl (congrArg (Value.int .i64) (by
      rw [hTt, hT, wi64 (n := (T : Int)) (by omega) (by omega), wi64 (n := (i : Int) + (T : Int)) (by omega) (by omega), Int.tmod_eq_emod_of_nonneg (by omega)]
      rfl)) ?_
    obtain ⟨j, hj⟩ : ∃ j, ordN xs.length t.toNat i = j := ⟨_, rfl⟩
    rw [hj] at hjl ⊢
    obtain ⟨x, hx, hxm⟩ := get_at hjl
    have hj0 : (0 : Int) ≤ (j : Int) := Int.natCast_nonneg j
    have hj1 : (j : Int) < ((xs.length : Nat) : Int) := by omega
    refine Pw.list (Pw.index rfl rfl rfl rfl hj0 hj1 (fun w h => (hv w h : XS xs (A, c) w).has hj0 hj1) rfl rfl ?_)
    rintro ad rfl
    refine Pw.list (Pw.loadR x rfl inferInstance rfl (by rw [Int.toNat_natCast]; exact hx) (by kernel_rfl) rfl rfl ?_)
    refine Pw.re (d := 73) (v' := exV x) rfl rfl ?_
    refine Pw.list (Pw.alloc rfl rfl rfl rfl rfl (fun g15 => ?_))
    repeat (first | refine Pw.runs ?_ | refine Pw.list (Pw.box rfl rfl rfl rfl (fun _ => ?_)) | refine Pw.list (Pw.alloc rfl rfl rfl rfl rfl (fun _ => ?_)))
    refine freeHead ?_
    repeat (first | refine Pw.runs ?_ | refine Pw.list (Pw.box rfl rfl rfl rfl (fun _ => ?_)) | refine Pw.list (Pw.alloc rfl rfl rfl rfl rfl (fun _ => ?_)))
    refine Pw.re (d := 79) (v' := .int .i64 (k : Int)) rfl (congrArg (Value.int .i64) (by rw [← hk]; have h1 := Int.tmod_nonneg 32 hs.1; have h2 := Int.tmod_lt_of_pos s (show (0 : Int) < 32 by omega); rw [wi64 (n := s.tmod 32) (by omega) (by omega)]; exact wi64 (by omega) (by omega))) ?_
    refine Pw.list (Pw.call (rPages_ct x (hxs x hxm) (by have := hl x hxm; omega) (k : Int) (by omega)) rfl rfl rfl (by kernel_rfl) rfl rfl (fun w h => by exact ((hv w h : XS xs (some ad, c) w).at hx).2.1) ?_)
    rintro ⟨P, ⟨Ap, cp⟩⟩ hP
    rw [hR x hxm] at hP ⊢
    dsimp only at hP ⊢
    obtain ⟨⟨e, b0⟩, he0, hem⟩ := get_at (show j < st0.length by omega)
    obtain ⟨x', sh, hx', hsh, hne⟩ := new_ne hN he ha hX hps he0
    obtain rfl : x = x' := by rw [hx] at hx'; exact Option.some.inj hx'
    rw [Int.toNat_natCast] at hne
    have hex : e.x = x := hne.e.ex
    have hel : e.pg.length = (pagesS x k).length := hne.l
    have hbl : e.bu.length = e.pg.length := hne.wf.b
    obtain ⟨m, hm⟩ : ∃ m, (pagesS x k).length = m := ⟨_, rfl⟩
    have hml : m ≤ 61 := by have := pages_le (x := x) (k := k) (by omega); have := hl x hxm; omega
    rw [hm]
    obtain ⟨o, ho⟩ : ∃ o : Bool, decide (t.tmod 2 = 1) = o := ⟨_, rfl⟩
    obtain ⟨S0, hS0⟩ : ∃ S0, left + sumL (buT st0) ((List.range i).map (ordN xs.length t.toNat)) = S0 := ⟨_, rfl⟩
    have hbT : buT st0 j = lsum e.bu := by unfold buT; rw [he0]
    have hjn : j ∉ (List.range i).map (ordN xs.length t.toNat) := by rw [← hj]; exact map_not ordN_inj (by omega)
    rw [hS0]
    repeat (first | refine Pw.runs ?_ | refine Pw.list (Pw.box rfl rfl rfl rfl (fun _ => ?_)) | refine Pw.list (Pw.alloc rfl rfl rfl rfl rfl (fun _ => ?_)))
    refine Pw.re (d := 13) (v' := .int .u64 (IntKind.u64.wrap (S0 + sumL (buI e) ((List.range 0).map (pgN o m))))) rfl (congrArg (Value.int .u64) (by show _ = IntKind.u64.wrap (S0 + 0); rw [Int.add_zero])) ?_
    refine Pw.loopJ (σ := Nat × Sr) (fun u => u.1 ≤ m ∧ So st0 u.2 (fun j' p => j' ∈ (List.range i).map (ordN xs.length t.toNat) ∨ (j' = j ∧ p ∈ (List.range u.1).map (pgN o m)))) (fun u => ⟨[(0, .int .u64 a), (1, .slice (some ad) xs.length c), (3, .int .u8 s), (4, .int .u8 t), (11, .pointer (some ⟨gr, 0, none⟩)), (13, .int .u64 (IntKind.u64.wrap (S0 + sumL (buI e) ((List.range u.1).map (pgN o m))))), (15, .pointer (some ⟨g15, 0, none⟩)), (16, .slice Ap m cp), (60, .int .i64 xs.length), (61, .int .i64 i), (84, .int .i64 m), (85, .int .i64 u.1)], rwL u.2, [rwF gr ga left st0, XS xs (some ad, c), fun W => W.heap[g15]? = some (row (exL x) 25)]⟩) (fun u => m - u.1) (0, st) ⟨Nat.zero_le _, hso.congr (fun j' s p _ _ => by simp)⟩ (by
      intro X h
      dsimp only at h
      refine Pw.enter ?_ ?_ X h
      · exact ⟨rfl, rfl, rfl, rfl, rfl, rfl, rfl, rfl, rfl, rfl, rfl, rfl, trivial⟩
      · exact fun w h => allCons (hv w h : rwF gr ga left st0 w) (allCons (hv w h : XS xs (some ad, c) w) (allCons (fx h) allNil))) ?_
    clear hso
    rintro ⟨k', st⟩ ⟨hk', hso⟩
    dsimp only at hk' hso ⊢
    repeat (first | refine Pw.runs ?_ | refine Pw.list (Pw.box rfl rfl rfl rfl (fun _ => ?_)) | refine Pw.list (Pw.alloc rfl rfl rfl rfl rfl (fun _ => ?_)))
    refine Pw.condD rfl (fun c4 => ?_) (fun c4 => ?_)
    · repeat (first | refine Pw.runs ?_ | refine Pw.list (Pw.box rfl rfl rfl rfl (fun _ => ?_)) | refine Pw.list (Pw.alloc rfl rfl rfl rfl rfl (fun _ => ?_)))
      have hkm : k' < m := by omega
      obtain ⟨p, hp⟩ : ∃ p, pgN o m k' = p := ⟨_, rfl⟩
      have hpm : p < m := by rw [← hp]; exact pgN_lt k' hkm
      refine Pw.joinF (σ := Unit) (fun _ => True) (fun _ => ⟨[(0, .int .u64 a), (1, .slice (some ad) xs.length c), (3, .int .u8 s), (4, .int .u8 t), (11, .pointer (some ⟨gr, 0, none⟩)), (13, .int .u64 (IntKind.u64.wrap (S0 + sumL (buI e) ((List.range k').map (pgN o m))))), (15, .pointer (some ⟨g15, 0, none⟩)), (16, .slice Ap m cp), (19, .int .i64 p), (60, .int .i64 xs.length), (61, .int .i64 i), (84, .int .i64 m), (85, .int .i64 k')], rwL st, [rwF gr ga left st0, XS xs (some ad, c), fun W => W.heap[g15]? = some (row (exL x) 25)]⟩) ?_ ?_
      · refine Pw.condD rfl (fun c5 => ?_) (fun c5 => ?_)
        · have hpe : ((p : Nat) : Int) = (m : Int) - 1 - (k' : Int) := by
            rw [← hp, ← ho, decide_eq_true c5]; unfold pgN; rw [if_pos rfl]; omega
          repeat (first | refine Pw.runs ?_ | refine Pw.list (Pw.box rfl rfl rfl rfl (fun _ => ?_)) | refine Pw.list (Pw.alloc rfl rfl rfl rfl rfl (fun _ => ?_)))
          refine Pw.re (d := 19) (v' := .int .i64 p) rfl (congrArg (Value.int .i64) (by rw [hpe, wi64 (n := (m : Int) - 1) (by omega) (by omega)]; exact wi64 (by omega) (by omega))) ?_
          exact Pw.arrive () trivial ⟨rfl, rfl, rfl, rfl, rfl, rfl, rfl, rfl, rfl, rfl, rfl, rfl, rfl, trivial⟩ rfl (fun w h => h)
        · have hpe : p = k' := by
            rw [← hp, ← ho, decide_eq_false c5]; unfold pgN; rw [if_neg Bool.false_ne_true]
          repeat (first | refine Pw.runs ?_ | refine Pw.list (Pw.box rfl rfl rfl rfl (fun _ => ?_)) | refine Pw.list (Pw.alloc rfl rfl rfl rfl rfl (fun _ => ?_)))
          rw [hpe]
          exact Pw.arrive () trivial ⟨rfl, rfl, rfl, rfl, rfl, rfl, rfl, rfl, rfl, rfl, rfl, rfl, rfl, trivial⟩ rfl (fun w h => h)
      intro _ _
      dsimp only
      have hpn : ¬ (j ∈ (List.range i).map (ordN xs.length t.toNat) ∨ (j = j ∧ p ∈ (List.range k').map (pgN o m))) := by
        rintro (h | ⟨_, h⟩)
        · exact hjn h
        · rw [← hp] at h; exact map_not pgN_inj hkm h
      obtain ⟨st', hpS, hso', hpA, hpA2, hpS2, hpd⟩ := so_pay hids hso he0 (by omega) hpn
      rw [hex] at hpS hpA hpA2 hpS2 hpd
      obtain ⟨pg, hpg, hpgm⟩ := get_at (show p < (pagesS x k).length by omega)
      have hpe : (e.pg[p]?).map Prod.fst = some pg := by
        have h1 : e.pg.map Prod.fst = pagesS x k := hne.e.pg
        rw [← List.getElem?_map, h1, hpg]
      rw [hpe, Option.getD_some] at hpA
      have hcom : 0 ≤ x.com ∧ x.com ≤ 1000000000 := by have h1 := hne.eu.c; replace h1 : 0 ≤ e.x.com ∧ e.x.com ≤ 1000000000 := h1; rw [hex] at h1; exact h1
      have hbU : U64 (buI e p) := by
        obtain ⟨b, hb, hbm⟩ := get_at (show p < e.bu.length by omega)
        unfold buI
        rw [hb]
        exact hne.eu.b b hbm
      have hok := payOk (v := x.id) (pg := pg) hbU hcom.1 hcom.2 (stk_u (hxs x hxm) pg hpgm)
      have hpgl : pg.length ≤ 61 := by have := page_le (x := x) (k := k) pg hpgm; have := hl x hxm; omega
      have hids1 : (idsS st).Nodup := by rw [hso.ids]; exact hids
      have hids2 : (idsS st').Nodup := by rw [hso'.ids]; exact hids
      have hcP := poPay_ct gr ga left st x.id (p : Int) hids1 hso.w (hso.eu hu0)
      rw [hpA, hpS] at hcP
      obtain ⟨Py, hPy⟩ : ∃ Py, payL x.id (buI e p) x.com pg = Py := ⟨_, rfl⟩
      obtain ⟨du, hdu⟩ : ∃ du, (amtE (buI e p) x.com pg).2 = du := ⟨_, rfl⟩
      rw [hPy, hdu] at hok hcP
      have hlen2 := hok.len
      have hcP2 := poPay_ct gr ga left st' x.id (p : Int) hids2 hso'.w (hso'.eu hu0)
      rw [hpA2, hpS2] at hcP2
      have hcD := poPaid_ct gr ga left st' x.id (p : Int) hids2 hso'.w
      rw [hpd] at hcD
      repeat (first | refine Pw.runs ?_ | refine Pw.list (Pw.box rfl rfl rfl rfl (fun _ => ?_)) | refine Pw.list (Pw.alloc rfl rfl rfl rfl rfl (fun _ => ?_)))
      refine Pw.list (Pw.callB (L0 := []) hcP (List.append_nil _).symm rfl rfl rfl (by kernel_rfl) rfl rfl (fun w h => hso.rwF (hv w h : rwF gr ga left st0 w)) ?_)
      rintro ⟨Aq, qc⟩ _
      refine Pw.eqL (L' := rwL st') (List.append_nil _) ?_
      dsimp only
      repeat (first | refine Pw.runs ?_ | refine Pw.list (Pw.box rfl rfl rfl rfl (fun _ => ?_)) | refine Pw.list (Pw.alloc rfl rfl rfl rfl rfl (fun _ => ?_)))
      refine Pw.list (Pw.callB (L0 := []) hcP2 (List.append_nil _).symm rfl rfl rfl (by kernel_rfl) rfl rfl (fun w h => hso'.rwF (hv w h : rwF gr ga left st0 w)) ?_)
      rintro ⟨Aq2, qc2⟩ _
      refine Pw.eqL (L' := rwL st') (List.append_nil _) ?_
      dsimp only
      repeat (first | refine Pw.runs ?_ | refine Pw.list (Pw.box rfl rfl rfl rfl (fun _ => ?_)) | refine Pw.list (Pw.alloc rfl rfl rfl rfl rfl (fun _ => ?_)))
      refine Pw.list (Pw.callR hcD rfl rfl rfl (by kernel_rfl) rfl rfl (fun w hs => ⟨hso'.rwF (hv w hs.all : rwF gr ga left st0 w), fun s hs' => hs.own (mkB s.1.gb s.2) (List.mem_map_of_mem hs')⟩) ?_)
      intro _ _
      repeat (first | refine Pw.runs ?_ | refine Pw.list (Pw.box rfl rfl rfl rfl (fun _ => ?_)) | refine Pw.list (Pw.alloc rfl rfl rfl rfl rfl (fun _ => ?_)))
      obtain ⟨S1, hS1⟩ : ∃ S1, S0 + sumL (buI e) ((List.range k').map (pgN o m)) = S1 := ⟨_, rfl⟩
      have hS2 : S0 + sumL (buI e) ((List.range (k' + 1)).map (pgN o m)) = S1 + buI e p := by rw [sumL_map_snoc, hp]; omega
      rw [hS1]
      refine Pw.re (d := 13) (v' := .int .u64 (IntKind.u64.wrap (S1 + du + lsum (stk (Py.take 0))))) rfl (congrArg (Value.int .u64) (by rw [wadd]; show _ = IntKind.u64.wrap (S1 + du + 0); rw [Int.add_zero])) ?_
      refine Pw.loopJ (σ := Nat) (fun l => l ≤ Py.length) (fun l => ⟨[(0, .int .u64 a), (1, .slice (some ad) xs.length c), (3, .int .u8 s), (4, .int .u8 t), (11, .pointer (some ⟨gr, 0, none⟩)), (13, .int .u64 (IntKind.u64.wrap (S1 + du + lsum (stk (Py.take l))))), (15, .pointer (some ⟨g15, 0, none⟩)), (16, .slice Ap m cp), (20, .slice Aq Py.length qc), (60, .int .i64 xs.length), (61, .int .i64 i), (84, .int .i64 m), (85, .int .i64 k'), (133, .int .i64 Py.length), (134, .int .i64 l)], rwL st', [PS Py (Aq, qc), rwF gr ga left st0, XS xs (some ad, c), fun W => W.heap[g15]? = some (row (exL x) 25)]⟩) (fun l => Py.length - l) 0 (Nat.zero_le _) (by
        intro X h
        dsimp only at h
        refine Pw.enter ?_ ?_ X h
        · exact ⟨rfl, rfl, rfl, rfl, rfl, rfl, rfl, rfl, rfl, rfl, rfl, rfl, rfl, rfl, rfl, trivial⟩
        · exact fun w h => allCons (hv w h : PS Py (Aq, qc) w) (allCons (hv w h : rwF gr ga left st0 w) (allCons (hv w h : XS xs (some ad, c) w) (allCons (fx h) allNil)))) ?_
      rintro l hl'
      dsimp only at hl' ⊢
      repeat (first | refine Pw.runs ?_ | refine Pw.list (Pw.box rfl rfl rfl rfl (fun _ => ?_)) | refine Pw.list (Pw.alloc rfl rfl rfl rfl rfl (fun _ => ?_)))
      refine Pw.condD rfl (fun c6 => ?_) (fun c6 => ?_)
      · obtain ⟨q1, hq1, _⟩ := get_at (show l < Py.length by omega)
        have hl0 : (0 : Int) ≤ (l : Int) := Int.natCast_nonneg l
        have hsn := lsum_stk_snoc hq1
        refine Pw.use (p := Aq.isSome = true) (fun w h => (fact0 h).has hl0 c6) (fun hA => ?_)
        obtain ⟨qd, rfl⟩ := Option.isSome_iff_exists.1 hA
        repeat (first | refine Pw.runs ?_ | refine Pw.list (Pw.box rfl rfl rfl rfl (fun _ => ?_)) | refine Pw.list (Pw.alloc rfl rfl rfl rfl rfl (fun _ => ?_)))
        refine Pw.list (Pw.indexS rfl rfl rfl rfl hl0 c6 rfl rfl ?_)
        refine Pw.list (Pw.fieldS rfl rfl rfl rfl rfl rfl rfl ?_)
        refine Pw.list (Pw.loadF q1 rfl inferInstance rfl (by rw [Int.toNat_natCast]; exact hq1) rfl rfl rfl rfl ?_)
        repeat (first | refine Pw.runs ?_ | refine Pw.list (Pw.box rfl rfl rfl rfl (fun _ => ?_)) | refine Pw.list (Pw.alloc rfl rfl rfl rfl rfl (fun _ => ?_)))
        refine Pw.re (d := 13) (v' := .int .u64 (IntKind.u64.wrap (S1 + du + lsum (stk (Py.take (l + 1)))))) rfl (congrArg (Value.int .u64) (by rw [wadd, hsn, ← Int.add_assoc])) ?_
        refine Pw.re (d := 134) (v' := .int .i64 ((l + 1 : Nat) : Int)) rfl (congrArg (Value.int .i64) (i64s (n := 100000) (by omega) (by omega))) ?_
        exact Pw.again (l + 1) (by omega) (by show Py.length - (l + 1) < Py.length - l; omega) ⟨rfl, rfl, rfl, rfl, rfl, rfl, rfl, rfl, rfl, rfl, rfl, rfl, rfl, rfl, rfl, trivial⟩ rfl (fun w h => allTail h)
      · obtain rfl : l = Py.length := by omega
        rw [List.take_length]
        repeat (first | refine Pw.runs ?_ | refine Pw.list (Pw.box rfl rfl rfl rfl (fun _ => ?_)) | refine Pw.list (Pw.alloc rfl rfl rfl rfl rfl (fun _ => ?_)))
        refine Pw.re (d := 13) (v' := .int .u64 (IntKind.u64.wrap (S0 + sumL (buI e) ((List.range (k' + 1)).map (pgN o m))))) rfl (congrArg (Value.int .u64) (by rw [hS2, Int.add_assoc, hok.s])) ?_
        refine Pw.re (d := 85) (v' := .int .i64 ((k' + 1 : Nat) : Int)) rfl (congrArg (Value.int .i64) (i64s (n := 100000) (by omega) (by omega))) ?_
        exact Pw.again (k' + 1, st') ⟨by omega, hso'.congr (fun j' s' p' _ _ => by rw [map_mem_snoc, hp]; exact ⟨fun h => h.elim (fun h => h.imp id (fun e => ⟨e.1, .inl e.2⟩)) (fun e => .inr ⟨e.1, .inr e.2⟩), fun h => h.elim (fun h => .inl (.inl h)) (fun e => e.2.elim (fun h => .inl (.inr ⟨e.1, h⟩)) (fun h => .inr ⟨e.1, h⟩))⟩)⟩ (by show m - (k' + 1) < m - k'; omega) ⟨rfl, rfl, rfl, rfl, rfl, rfl, rfl, rfl, rfl, rfl, rfl, rfl, trivial⟩ rfl (fun w h => allTail h)
    · obtain rfl : k' = m := by omega
      obtain ⟨hnA, hnS⟩ := so_none hids hso he0 (p := k') (by omega)
      rw [hex] at hnA hnS
      have hids1 : (idsS st).Nodup := by rw [hso.ids]; exact hids
      have hcP := poPay_ct gr ga left st x.id (k' : Int) hids1 hso.w (hso.eu hu0)
      rw [hnA, hnS] at hcP
      repeat (first | refine Pw.runs ?_ | refine Pw.list (Pw.box rfl rfl rfl rfl (fun _ => ?_)) | refine Pw.list (Pw.alloc rfl rfl rfl rfl rfl (fun _ => ?_)))
      refine Pw.list (Pw.callB (L0 := []) hcP (List.append_nil _).symm rfl rfl rfl (by kernel_rfl) rfl rfl (fun w h => hso.rwF (hv w h : rwF gr ga left st0 w)) ?_)
      rintro ⟨Aq, qc⟩ _
      refine Pw.eqL (L' := rwL st) (List.append_nil _) ?_
      dsimp only
      repeat (first | refine Pw.runs ?_ | refine Pw.list (Pw.box rfl rfl rfl rfl (fun _ => ?_)) | refine Pw.list (Pw.alloc rfl rfl rfl rfl rfl (fun _ => ?_)))
      refine Pw.re (d := 13) (v' := .int .u64 (IntKind.u64.wrap (left + sumL (buT st0) ((List.range (i + 1)).map (ordN xs.length t.toNat))))) rfl (congrArg (Value.int .u64) (by
        rw [sumL_map_snoc, hj, hbT, ← buI_sum e, hbl, hel, hm, ← Int.add_assoc, hS0, sumL_map_all pgN_inj pgN_lt])) ?_
      refine Pw.re (d := 61) (v' := .int .i64 ((i + 1 : Nat) : Int)) rfl (congrArg (Value.int .i64) (i64s (n := 100000) (by omega) (by omega))) ?_
      exact Pw.again (i + 1, st) ⟨by omega, hso.congr (fun j' s' p' hs' hp' => by
        rw [map_mem_snoc, hj]
        refine ⟨fun h => h.imp id (fun ej => ej.1), fun h => h.elim .inl (fun ej => .inr ⟨ej, ?_⟩)⟩
        obtain ⟨b1, hb1⟩ := hso.back hs'
        rw [ej, he0] at hb1
        have h2 : e = s'.1 := (Prod.mk.inj (Option.some.inj hb1)).1
        exact inj_all pgN_inj pgN_lt p' (by rw [← h2] at hp'; omega))⟩ (by show xs.length - (i + 1) < xs.length - i; omega) ⟨rfl, rfl, rfl, rfl, rfl, rfl, rfl, rfl, trivial⟩ rfl (fun w h => allCons (hv w h : rwF gr ga left st0 w) (allCons (hv w h : XS xs (some ad, c) w) allNil))
  · obtain rfl : i = xs.length := by omega
    have hfin : left + sumL (buT st0) ((List.range xs.length).map (ordN xs.length t.toNat)) = a := by rw [sumL_map_all ordN_inj ordN_lt, ← hlen]; exact htot
    rw [hfin, wu ha.1 ha.2]
    have ho : openS st = 0 := so_open hso (fun j p hj => inj_all ordN_inj ordN_lt j (by omega))
    have hcO := poOpen_ct gr ga left st hso.w (hso.eu hu0) (by rw [ho]; omega)
    rw [ho] at hcO
    repeat (first | refine Pw.runs ?_ | refine Pw.list (Pw.box rfl rfl rfl rfl (fun _ => ?_)) | refine Pw.list (Pw.alloc rfl rfl rfl rfl rfl (fun _ => ?_)))
    refine Pw.re (d := 162) (v' := .bool true) rfl (congrArg Value.bool (decide_eq_true rfl)) ?_
    repeat (first | refine Pw.runs ?_ | refine Pw.list (Pw.box rfl rfl rfl rfl (fun _ => ?_)) | refine Pw.list (Pw.alloc rfl rfl rfl rfl rfl (fun _ => ?_)))
    refine Pw.list (Pw.callR hcO rfl rfl rfl (by kernel_rfl) rfl rfl (fun w hs => ⟨hso.rwF (hv w hs.all : rwF gr ga left st0 w), fun s hs' => hs.own (mkB s.1.gb s.2) (List.mem_map_of_mem hs')⟩) ?_)
    intro _ _
    repeat (first | refine Pw.runs ?_ | refine Pw.list (Pw.box rfl rfl rfl rfl (fun _ => ?_)) | refine Pw.list (Pw.alloc rfl rfl rfl rfl rfl (fun _ => ?_)))
    exact Pw.ret_ (x := ()) (.tmp rfl .nil) rfl trivial (fun w h => by trivial)
end Go.Proofs.Wk
