/- Walks and their mathematics, merged. No conditions beyond those written. -/
import Derived.Test.YtfffibpckjjnfaaWmPhragmenSupports4
/- An election at one voter: phragmen.Elect walked. -/
namespace Go.Proofs.Wk
open Go.RowKit
set_option maxRecDepth 100000
set_option maxHeartbeats 8000000
attribute [local irreducible] Pw OpG
set_option linter.unusedVariables false
set_option linter.unusedSimpArgs false
abbrev s1 (z zv zc : Option Addr × Nat) : Sn := ⟨[⟨1, 5, [2], z⟩], zv, [2], zc⟩
theorem s1_formed (z zv zc : Option Addr × Nat) : formB (s1 z zv zc) = true := by
  refine formB_yes (by simp) (by simp) (by rfl) (fun j hj => ?_)
  obtain rfl : j = 0 := by simp at hj; exact hj
  rfl
theorem ofNe1 : ofN 1 = [1] := by rw [ofN_natL (by omega) (by omega), natL_one]
theorem natL5 : natL 5 = [5] := by
  unfold natL; rw [if_neg (by omega), show (5 : Int) / 4294967296 = 0 by decide, natL_zero]; rfl
theorem ofNe5 : ofN 5 = [5] := by rw [ofN_natL (by omega) (by omega), natL5]
theorem v1 : val [1] = 1 := by decide
theorem v5 : val [5] = 5 := by decide
theorem v0 : val [] = 0 := by decide
theorem f1 : fmB [1] = true := by decide
theorem f5 : fmB [5] = true := by decide
theorem f0 : fmB [] = true := by decide
theorem lm1 : Lm [1] := fun x hx => by rw [List.mem_singleton.1 hx]; omega
theorem lm5 : Lm [5] := fun x hx => by rw [List.mem_singleton.1 hx]; omega
theorem lm0 : Lm [] := fun x hx => by cases hx
theorem t15 : (mulS [1] (ofN 5)).1 = [5] := by
  rw [ofNe5, mulS_bd f1 f5, v1, v5, show (1 : Int) * 5 = 5 by decide, natL5, bd_ok (by simp)]
theorem t05 : (mulS [] (ofN 5)).1 = [] := by
  rw [ofNe5, mulS_bd f0 f5, v0, v5, show (0 : Int) * 5 = 0 by decide, natL_zero, bd_ok (by simp)]
theorem a10 : (addS [1] []).1 = [1] := by
  rw [addS_bd f1 f0, v0, v1, show (1 : Int) + 0 = 1 by decide, natL_one, bd_ok (by simp)]
theorem s10 : (subS [1] []).1 = [1] := by
  unfold subS
  rw [if_pos ⟨f1, f0⟩, v0, v1, if_neg (by decide), show (1 : Int) - 0 = 1 by decide, natL_one]
theorem IndexSeat0_ct (f : Value) : Ct Try.prog 104 #[.slice none 0 0, f] (fun _ => True) (fun _ : Unit => .int .i64 (-1)) Tt (fun _ _ => True) := by
  refine Ct.start Try.func104 rfl rfl (slots_of rfl slots2) (fun D w0 => ?_)
  repeat (first | (with_reducible first | refine Pw.seq ?_ | refine Pw.region ?_ | refine Pw.nil ?_ | refine Pw.then_ ?_ | refine Pw.skip ?_ | refine Pw.block ?_ | refine Pw.exit ?_ | refine Pw.inX ?_ | refine Pw.inN ?_ | refine Pw.inR ?_ | refine Pw.thenX ?_ | refine Pw.thenR ?_ | refine Pw.ret ?_) | refine Pw.list (Pw.pure rfl rfl rfl ?_) | refine Pw.inY rfl ?_ | refine Pw.list (Pw.off rfl rfl ?_) | refine Pw.condT rfl ?_ | refine Pw.condF rfl ?_ | refine Pw.list (Pw.box rfl rfl rfl rfl (fun _ => ?_)) | refine Pw.list (Pw.alloc rfl rfl rfl rfl rfl (fun _ => ?_)) | refine Pw.list (Pw.build rfl rfl rfl rfl ?_) | refine Pw.list (Pw.ld rfl inferInstance rfl rfl rfl ?_) | refine Pw.list (Pw.sto rfl rfl inferInstance rfl rfl rfl rfl rfl inferInstance rfl ?_))
  refine Pw.rounds 2 (Pw.round ?_)
  repeat (first | (with_reducible first | refine Pw.seq ?_ | refine Pw.region ?_ | refine Pw.nil ?_ | refine Pw.then_ ?_ | refine Pw.skip ?_ | refine Pw.block ?_ | refine Pw.exit ?_ | refine Pw.inX ?_ | refine Pw.inN ?_ | refine Pw.inR ?_ | refine Pw.thenX ?_ | refine Pw.thenR ?_ | refine Pw.ret ?_) | refine Pw.list (Pw.pure rfl rfl rfl ?_) | refine Pw.inY rfl ?_ | refine Pw.list (Pw.off rfl rfl ?_) | refine Pw.condT rfl ?_ | refine Pw.condF rfl ?_ | refine Pw.list (Pw.box rfl rfl rfl rfl (fun _ => ?_)) | refine Pw.list (Pw.alloc rfl rfl rfl rfl rfl (fun _ => ?_)) | refine Pw.list (Pw.build rfl rfl rfl rfl ?_) | refine Pw.list (Pw.ld rfl inferInstance rfl rfl rfl ?_) | refine Pw.list (Pw.sto rfl rfl inferInstance rfl rfl rfl rfl rfl inferInstance rfl ?_))
  exact Pw.ret_ (x := ()) (.tmp rfl .nil) rfl trivial (fun w h => by trivial)
theorem ContainsSeat0_ct (f : Value) : Ct Try.prog 89 #[.slice none 0 0, f] (fun _ => True) (fun _ : Unit => .bool false) Tt (fun _ _ => True) := by
  refine Ct.start Try.func89 rfl rfl (slots_of rfl slots2) (fun D w0 => ?_)
  repeat (first | (with_reducible first | refine Pw.seq ?_ | refine Pw.region ?_ | refine Pw.nil ?_ | refine Pw.then_ ?_ | refine Pw.skip ?_ | refine Pw.block ?_ | refine Pw.exit ?_ | refine Pw.inX ?_ | refine Pw.inN ?_ | refine Pw.inR ?_ | refine Pw.thenX ?_ | refine Pw.thenR ?_ | refine Pw.ret ?_) | refine Pw.list (Pw.pure rfl rfl rfl ?_) | refine Pw.inY rfl ?_ | refine Pw.list (Pw.off rfl rfl ?_) | refine Pw.condT rfl ?_ | refine Pw.condF rfl ?_ | refine Pw.list (Pw.box rfl rfl rfl rfl (fun _ => ?_)) | refine Pw.list (Pw.alloc rfl rfl rfl rfl rfl (fun _ => ?_)) | refine Pw.list (Pw.build rfl rfl rfl rfl ?_) | refine Pw.list (Pw.ld rfl inferInstance rfl rfl rfl ?_) | refine Pw.list (Pw.sto rfl rfl inferInstance rfl rfl rfl rfl rfl inferInstance rfl ?_))
  refine Pw.list (Pw.call (IndexSeat0_ct f) rfl rfl rfl (by kernel_rfl) rfl rfl (fun w h => trivial) ?_)
  intro _ _
  repeat (first | (with_reducible first | refine Pw.seq ?_ | refine Pw.region ?_ | refine Pw.nil ?_ | refine Pw.then_ ?_ | refine Pw.skip ?_ | refine Pw.block ?_ | refine Pw.exit ?_ | refine Pw.inX ?_ | refine Pw.inN ?_ | refine Pw.inR ?_ | refine Pw.thenX ?_ | refine Pw.thenR ?_ | refine Pw.ret ?_) | refine Pw.list (Pw.pure rfl rfl rfl ?_) | refine Pw.inY rfl ?_ | refine Pw.list (Pw.off rfl rfl ?_) | refine Pw.condT rfl ?_ | refine Pw.condF rfl ?_ | refine Pw.list (Pw.box rfl rfl rfl rfl (fun _ => ?_)) | refine Pw.list (Pw.alloc rfl rfl rfl rfl rfl (fun _ => ?_)) | refine Pw.list (Pw.build rfl rfl rfl rfl ?_) | refine Pw.list (Pw.ld rfl inferInstance rfl rfl rfl ?_) | refine Pw.list (Pw.sto rfl rfl inferInstance rfl rfl rfl rfl rfl inferInstance rfl ?_))
  exact Pw.ret_ (x := ()) (.tmp rfl .nil) rfl trivial (fun w h => by trivial)
theorem Elect1_ct (z zv zc : Option Addr × Nat) :
    Ct Try.prog 25 #[snV (s1 z zv zc), .int .i64 1] (snF (s1 z zv zc)) (fun r : Nat × Nat × Value => .tuple #[.slice (some ⟨r.1, 0, none⟩) 1 r.2.1, r.2.2, .int .i64 0]) Tt (fun r W => W.cell? ⟨r.1, 0, none⟩ = some (.int .i64 2)) := by
  refine Ct.start Try.func25 rfl rfl (slots_of rfl slots2) (fun D w0 => Pw.facts sn2 ?_)
  repeat (first | (with_reducible first | refine Pw.seq ?_ | refine Pw.region ?_ | refine Pw.nil ?_ | refine Pw.then_ ?_ | refine Pw.skip ?_ | refine Pw.block ?_ | refine Pw.exit ?_ | refine Pw.inX ?_ | refine Pw.inN ?_ | refine Pw.inR ?_ | refine Pw.thenX ?_ | refine Pw.thenR ?_ | refine Pw.ret ?_) | refine Pw.list (Pw.pure rfl rfl rfl ?_) | refine Pw.inY rfl ?_ | refine Pw.list (Pw.off rfl rfl ?_) | refine Pw.condT rfl ?_ | refine Pw.condF rfl ?_)
  refine Pw.list (Pw.box rfl rfl rfl rfl (fun g2 => freeHead ?_))
  repeat (first | (with_reducible first | refine Pw.seq ?_ | refine Pw.region ?_ | refine Pw.nil ?_ | refine Pw.then_ ?_ | refine Pw.skip ?_ | refine Pw.block ?_ | refine Pw.exit ?_ | refine Pw.inX ?_ | refine Pw.inN ?_ | refine Pw.inR ?_ | refine Pw.thenX ?_ | refine Pw.thenR ?_ | refine Pw.ret ?_) | refine Pw.list (Pw.pure rfl rfl rfl ?_) | refine Pw.inY rfl ?_ | refine Pw.list (Pw.off rfl rfl ?_) | refine Pw.condT rfl ?_ | refine Pw.condF rfl ?_ | refine Pw.list (Pw.box rfl rfl rfl rfl (fun _ => ?_)) | refine Pw.list (Pw.alloc rfl rfl rfl rfl rfl (fun _ => ?_)) | refine Pw.list (Pw.build rfl rfl rfl rfl ?_) | refine Pw.list (Pw.ld rfl inferInstance rfl rfl rfl ?_) | refine Pw.list (Pw.sto rfl rfl inferInstance rfl rfl rfl rfl rfl inferInstance rfl ?_))
  refine Pw.list (Pw.call (gFormed_ct (s1 z zv zc) (fun v hv => by rw [List.mem_singleton.1 hv]; exact ⟨by show (0 : Int) ≤ 5; omega, by show (5 : Int) ≤ _; omega⟩)) rfl rfl rfl (by kernel_rfl) rfl rfl (fun w h => ⟨(hv w h), (hv w h)⟩) ?_)
  intro _ _
  rw [s1_formed]
  repeat (first | (with_reducible first | refine Pw.seq ?_ | refine Pw.region ?_ | refine Pw.nil ?_ | refine Pw.then_ ?_ | refine Pw.skip ?_ | refine Pw.block ?_ | refine Pw.exit ?_ | refine Pw.inX ?_ | refine Pw.inN ?_ | refine Pw.inR ?_ | refine Pw.thenX ?_ | refine Pw.thenR ?_ | refine Pw.ret ?_) | refine Pw.list (Pw.pure rfl rfl rfl ?_) | refine Pw.inY rfl ?_ | refine Pw.list (Pw.off rfl rfl ?_) | refine Pw.condT rfl ?_ | refine Pw.condF rfl ?_ | refine Pw.list (Pw.box rfl rfl rfl rfl (fun _ => ?_)) | refine Pw.list (Pw.alloc rfl rfl rfl rfl rfl (fun _ => ?_)) | refine Pw.list (Pw.build rfl rfl rfl rfl ?_) | refine Pw.list (Pw.ld rfl inferInstance rfl rfl rfl ?_) | refine Pw.list (Pw.sto rfl rfl inferInstance rfl rfl rfl rfl rfl inferInstance rfl ?_))
  refine Pw.list (Pw.inline (K' := [(0, snV (s1 z zv zc))]) Try.func58 rfl rfl rfl rfl (by kernel_rfl) rfl rfl rfl (slots_of rfl slots1) (fun R hR => ?_))
  repeat (first | (with_reducible first | refine Pw.seq ?_ | refine Pw.region ?_ | refine Pw.nil ?_ | refine Pw.then_ ?_ | refine Pw.skip ?_ | refine Pw.block ?_ | refine Pw.exit ?_ | refine Pw.inX ?_ | refine Pw.inN ?_ | refine Pw.inR ?_ | refine Pw.thenX ?_ | refine Pw.thenR ?_ | refine Pw.ret ?_) | refine Pw.list (Pw.pure rfl rfl rfl ?_) | refine Pw.inY rfl ?_ | refine Pw.list (Pw.off rfl rfl ?_) | refine Pw.condT rfl ?_ | refine Pw.condF rfl ?_)
  refine Pw.list (Pw.box rfl rfl rfl rfl (fun g1 => freeHead ?_))
  repeat (first | (with_reducible first | refine Pw.seq ?_ | refine Pw.region ?_ | refine Pw.nil ?_ | refine Pw.then_ ?_ | refine Pw.skip ?_ | refine Pw.block ?_ | refine Pw.exit ?_ | refine Pw.inX ?_ | refine Pw.inN ?_ | refine Pw.inR ?_ | refine Pw.thenX ?_ | refine Pw.thenR ?_ | refine Pw.ret ?_) | refine Pw.list (Pw.pure rfl rfl rfl ?_) | refine Pw.inY rfl ?_ | refine Pw.list (Pw.off rfl rfl ?_) | refine Pw.condT rfl ?_ | refine Pw.condF rfl ?_ | refine Pw.list (Pw.box rfl rfl rfl rfl (fun _ => ?_)) | refine Pw.list (Pw.alloc rfl rfl rfl rfl rfl (fun _ => ?_)) | refine Pw.list (Pw.build rfl rfl rfl rfl ?_) | refine Pw.list (Pw.ld rfl inferInstance rfl rfl rfl ?_) | refine Pw.list (Pw.sto rfl rfl inferInstance rfl rfl rfl rfl rfl inferInstance rfl ?_))
  refine Pw.join (σ := Nat × Nat × (Option Addr × Nat)) (fun _ => True) (fun t => ⟨[(1, .pointer (some ⟨g1, 0, none⟩)), (3, .pointer (some ⟨t.1, 0, none⟩))], [⟨t.1, row [.slice zv.1 1 zv.2, sl [2] zc, .map (some t.2.1), sl (ofN 1) t.2.2, .slice none 0 0, .slice none 0 0, .slice none 0 0] 120⟩, ⟨t.2.1, mapO []⟩], [S1 (ofN 1) t.2.2, fun W => W.heap[g1]? = some (row [.slice zv.1 1 zv.2, sl [2] zc] 70), fun W => W.heap[g2]? = some (row [.slice zv.1 1 zv.2, sl [2] zc] 70), VS [⟨1, 5, [2], z⟩] zv, I1 [2] zc]⟩) ?_ ?_
  · skip
    refine Pw.drawnG mixed rfl rfl ?_
    refine Pw.takeF 0 (nb 6 1) rfl rfl inferInstance rfl rfl rfl (by kernel_rfl) np sf ?_
    refine Pw.two 1 2 (nb 6 3) (nb 6 5) rfl rfl (by kernel_rfl) ?_ ?_
    · skip
      refine Pw.makeMap rfl rfl (fun ga => ?_)
      refine Pw.held sf ?_
      refine Pw.one 2 (nb 6 7) rfl (by kernel_rfl) ?_
      refine Pw.call (Of_ct 1) rfl rfl rfl (by kernel_rfl) rfl rfl (fun w h => trivial) ?_
      intro zd _
      refine Pw.held sf ?_
      refine Pw.takeBuild 3 (nb 6 15) rfl rfl rfl rfl rfl (by kernel_rfl) np sf ?_
      refine Pw.one 4 (nb 6 31) rfl (by kernel_rfl) ?_
      refine Pw.box rfl rfl rfl rfl (fun gr => ?_)
      refine Pw.held sf ?_
      refine Pw.takeP 5 (nb 6 63) rfl rfl rfl rfl (by kernel_rfl) np sf ?_
      refine Pw.done (by kernel_rfl) ?_
      exact Pw.then_ (Pw.arrive (gr, ga, zd) trivial ⟨rfl, rfl, trivial⟩ rfl (fun w h => allCons (hv w h) (allCons (by first | exact fact0 (h) | exact fact0 (allTail (h)) | exact fact0 (allTail (allTail (h))) | exact fact0 (allTail (allTail (allTail (h)))) | exact fact0 (allTail (allTail (allTail (allTail (h))))) | exact fact0 (allTail (allTail (allTail (allTail (allTail (h)))))) | exact fact0 (allTail (allTail (allTail (allTail (allTail (allTail (h))))))) | exact fact0 (allTail (allTail (allTail (allTail (allTail (allTail (allTail (h)))))))) | exact fact0 (allTail (allTail (allTail (allTail (allTail (allTail (allTail (allTail (h))))))))) | exact fact0 (allTail (allTail (allTail (allTail (allTail (allTail (allTail (allTail (allTail (h))))))))))) (allCons (by first | exact fact0 (h) | exact fact0 (allTail (h)) | exact fact0 (allTail (allTail (h))) | exact fact0 (allTail (allTail (allTail (h)))) | exact fact0 (allTail (allTail (allTail (allTail (h))))) | exact fact0 (allTail (allTail (allTail (allTail (allTail (h)))))) | exact fact0 (allTail (allTail (allTail (allTail (allTail (allTail (h))))))) | exact fact0 (allTail (allTail (allTail (allTail (allTail (allTail (allTail (h)))))))) | exact fact0 (allTail (allTail (allTail (allTail (allTail (allTail (allTail (allTail (h))))))))) | exact fact0 (allTail (allTail (allTail (allTail (allTail (allTail (allTail (allTail (allTail (h))))))))))) (allCons (hv w h) (allCons (hv w h) allNil))))))
    · skip
      refine Pw.call (Of_ct 1) rfl rfl rfl (by kernel_rfl) rfl rfl (fun w h => trivial) ?_
      intro zd _
      refine Pw.held sf ?_
      refine Pw.one 1 (nb 6 7) rfl (by kernel_rfl) ?_
      refine Pw.makeMap rfl rfl (fun ga => ?_)
      refine Pw.held sf ?_
      refine Pw.takeBuild 3 (nb 6 15) rfl rfl rfl rfl rfl (by kernel_rfl) np sf ?_
      refine Pw.one 4 (nb 6 31) rfl (by kernel_rfl) ?_
      refine Pw.box rfl rfl rfl rfl (fun gr => ?_)
      refine Pw.held sf ?_
      refine Pw.takeP 5 (nb 6 63) rfl rfl rfl rfl (by kernel_rfl) np sf ?_
      refine Pw.done (by kernel_rfl) ?_
      exact Pw.then_ (Pw.arrive (gr, ga, zd) trivial ⟨rfl, rfl, trivial⟩ rfl (fun w h => allCons (hv w h) (allCons (by first | exact fact0 (h) | exact fact0 (allTail (h)) | exact fact0 (allTail (allTail (h))) | exact fact0 (allTail (allTail (allTail (h)))) | exact fact0 (allTail (allTail (allTail (allTail (h))))) | exact fact0 (allTail (allTail (allTail (allTail (allTail (h)))))) | exact fact0 (allTail (allTail (allTail (allTail (allTail (allTail (h))))))) | exact fact0 (allTail (allTail (allTail (allTail (allTail (allTail (allTail (h)))))))) | exact fact0 (allTail (allTail (allTail (allTail (allTail (allTail (allTail (allTail (h))))))))) | exact fact0 (allTail (allTail (allTail (allTail (allTail (allTail (allTail (allTail (allTail (h))))))))))) (allCons (by first | exact fact0 (h) | exact fact0 (allTail (h)) | exact fact0 (allTail (allTail (h))) | exact fact0 (allTail (allTail (allTail (h)))) | exact fact0 (allTail (allTail (allTail (allTail (h))))) | exact fact0 (allTail (allTail (allTail (allTail (allTail (h)))))) | exact fact0 (allTail (allTail (allTail (allTail (allTail (allTail (h))))))) | exact fact0 (allTail (allTail (allTail (allTail (allTail (allTail (allTail (h)))))))) | exact fact0 (allTail (allTail (allTail (allTail (allTail (allTail (allTail (allTail (h))))))))) | exact fact0 (allTail (allTail (allTail (allTail (allTail (allTail (allTail (allTail (allTail (h))))))))))) (allCons (hv w h) (allCons (hv w h) allNil))))))
  rintro ⟨gr, ga, zd⟩ _
  dsimp only
  obtain ⟨Az, cz⟩ := zv
  refine Pw.use (p := Az.isSome = true) (fun w h => (hv w h : VS [⟨1, 5, [2], z⟩] (Az, cz) w).has (i := 0) (Int.le_refl 0) (by show (0 : Int) < 1; omega)) (fun hA => ?_)
  obtain ⟨av, rfl⟩ := Option.isSome_iff_exists.1 hA
  repeat (first | (with_reducible first | refine Pw.seq ?_ | refine Pw.region ?_ | refine Pw.nil ?_ | refine Pw.then_ ?_ | refine Pw.skip ?_ | refine Pw.block ?_ | refine Pw.exit ?_ | refine Pw.inX ?_ | refine Pw.inN ?_ | refine Pw.inR ?_ | refine Pw.thenX ?_ | refine Pw.thenR ?_ | refine Pw.ret ?_) | refine Pw.list (Pw.pure rfl rfl rfl ?_) | refine Pw.inY rfl ?_ | refine Pw.list (Pw.off rfl rfl ?_) | refine Pw.condT rfl ?_ | refine Pw.condF rfl ?_ | refine Pw.list (Pw.box rfl rfl rfl rfl (fun _ => ?_)) | refine Pw.list (Pw.alloc rfl rfl rfl rfl rfl (fun _ => ?_)) | refine Pw.list (Pw.build rfl rfl rfl rfl ?_) | refine Pw.list (Pw.ld rfl inferInstance rfl rfl rfl ?_) | refine Pw.list (Pw.sto rfl rfl inferInstance rfl rfl rfl rfl rfl inferInstance rfl ?_))
  refine Pw.rounds 3 (Pw.round ?_)
  repeat (first | (with_reducible first | refine Pw.seq ?_ | refine Pw.region ?_ | refine Pw.nil ?_ | refine Pw.then_ ?_ | refine Pw.skip ?_ | refine Pw.block ?_ | refine Pw.exit ?_ | refine Pw.inX ?_ | refine Pw.inN ?_ | refine Pw.inR ?_ | refine Pw.thenX ?_ | refine Pw.thenR ?_ | refine Pw.ret ?_) | refine Pw.list (Pw.pure rfl rfl rfl ?_) | refine Pw.inY rfl ?_ | refine Pw.list (Pw.off rfl rfl ?_) | refine Pw.condT rfl ?_ | refine Pw.condF rfl ?_ | refine Pw.list (Pw.box rfl rfl rfl rfl (fun _ => ?_)) | refine Pw.list (Pw.alloc rfl rfl rfl rfl rfl (fun _ => ?_)) | refine Pw.list (Pw.build rfl rfl rfl rfl ?_) | refine Pw.list (Pw.ld rfl inferInstance rfl rfl rfl ?_) | refine Pw.list (Pw.sto rfl rfl inferInstance rfl rfl rfl rfl rfl inferInstance rfl ?_))
  refine Pw.list (Pw.indexS rfl rfl rfl rfl (Int.le_refl 0) (by show (0 : Int) < 1; omega) rfl rfl ?_)
  refine Pw.list (Pw.loadR ⟨1, 5, [2], z⟩ rfl inferInstance rfl rfl (by kernel_rfl) rfl rfl ?_)
  refine Pw.re (d := 20) (v' := vtV ⟨1, 5, [2], z⟩) rfl rfl ?_
  repeat (first | (with_reducible first | refine Pw.seq ?_ | refine Pw.region ?_ | refine Pw.nil ?_ | refine Pw.then_ ?_ | refine Pw.skip ?_ | refine Pw.block ?_ | refine Pw.exit ?_ | refine Pw.inX ?_ | refine Pw.inN ?_ | refine Pw.inR ?_ | refine Pw.thenX ?_ | refine Pw.thenR ?_ | refine Pw.ret ?_) | refine Pw.list (Pw.pure rfl rfl rfl ?_) | refine Pw.inY rfl ?_ | refine Pw.list (Pw.off rfl rfl ?_) | refine Pw.condT rfl ?_ | refine Pw.condF rfl ?_ | refine Pw.list (Pw.box rfl rfl rfl rfl (fun _ => ?_)) | refine Pw.list (Pw.alloc rfl rfl rfl rfl rfl (fun _ => ?_)) | refine Pw.list (Pw.build rfl rfl rfl rfl ?_) | refine Pw.list (Pw.ld rfl inferInstance rfl rfl rfl ?_) | refine Pw.list (Pw.sto rfl rfl inferInstance rfl rfl rfl rfl rfl inferInstance rfl ?_))
  refine freeHead ?_
  repeat (first | (with_reducible first | refine Pw.seq ?_ | refine Pw.region ?_ | refine Pw.nil ?_ | refine Pw.then_ ?_ | refine Pw.skip ?_ | refine Pw.block ?_ | refine Pw.exit ?_ | refine Pw.inX ?_ | refine Pw.inN ?_ | refine Pw.inR ?_ | refine Pw.thenX ?_ | refine Pw.thenR ?_ | refine Pw.ret ?_) | refine Pw.list (Pw.pure rfl rfl rfl ?_) | refine Pw.inY rfl ?_ | refine Pw.list (Pw.off rfl rfl ?_) | refine Pw.condT rfl ?_ | refine Pw.condF rfl ?_ | refine Pw.list (Pw.box rfl rfl rfl rfl (fun _ => ?_)) | refine Pw.list (Pw.alloc rfl rfl rfl rfl rfl (fun _ => ?_)) | refine Pw.list (Pw.build rfl rfl rfl rfl ?_) | refine Pw.list (Pw.ld rfl inferInstance rfl rfl rfl ?_) | refine Pw.list (Pw.sto rfl rfl inferInstance rfl rfl rfl rfl rfl inferInstance rfl ?_))
  refine Pw.list (Pw.lit1 rfl rfl rfl rfl rfl rfl rfl rfl rfl (fun gl0 => freeHead ?_))
  refine Pw.list (Pw.push (s := none) (m := 0) (cells := []) (news := [.slice none 0 0]) rfl rfl rfl rfl rfl rfl rfl ⟨rfl, rfl⟩ rfl (fun u hu => by rw [List.mem_singleton.1 hu]; rfl) (fun w hs j u hu => by
    have h1 : w.heap[gl0]? = some (row [.slice none 0 0] 37) := fact0 hs.all
    rw [add_none, cell_of_blk h1]
    simpa using hu) (by omega) (by simp only [maxLen]; omega) (by show 1 * 24 ≤ _; omega) rfl rfl (fun ql hql => ?_))
  obtain _ | ⟨gl, capl, exl⟩ := ql
  · have := hql.1; omega
  refine Pw.eqL (L' := [⟨gl, row (.slice none 0 0 :: exl) 37⟩, ⟨gr, row [.slice (some av) 1 cz, sl [2] zc, .map (some ga), sl (ofN 1) zd, .slice none 0 0, .slice none 0 0, .slice none 0 0] 120⟩, ⟨ga, mapO []⟩]) rfl ?_
  refine Pw.re (d := 27) (v' := .slice (some ⟨gl, 0, none⟩) 1 capl) rfl rfl ?_
  repeat (first | (with_reducible first | refine Pw.seq ?_ | refine Pw.region ?_ | refine Pw.nil ?_ | refine Pw.then_ ?_ | refine Pw.skip ?_ | refine Pw.block ?_ | refine Pw.exit ?_ | refine Pw.inX ?_ | refine Pw.inN ?_ | refine Pw.inR ?_ | refine Pw.thenX ?_ | refine Pw.thenR ?_ | refine Pw.ret ?_) | refine Pw.list (Pw.pure rfl rfl rfl ?_) | refine Pw.inY rfl ?_ | refine Pw.list (Pw.off rfl rfl ?_) | refine Pw.condT rfl ?_ | refine Pw.condF rfl ?_ | refine Pw.list (Pw.box rfl rfl rfl rfl (fun _ => ?_)) | refine Pw.list (Pw.alloc rfl rfl rfl rfl rfl (fun _ => ?_)) | refine Pw.list (Pw.build rfl rfl rfl rfl ?_) | refine Pw.list (Pw.ld rfl inferInstance rfl rfl rfl ?_) | refine Pw.list (Pw.sto rfl rfl inferInstance rfl rfl rfl rfl rfl inferInstance rfl ?_))
  refine Pw.list (Pw.makeMap rfl rfl (fun gm => ?_))
  refine Pw.list (Pw.lit1 rfl rfl rfl rfl rfl rfl rfl rfl rfl (fun ge0 => freeHead ?_))
  refine Pw.list (Pw.push (s := none) (m := 0) (cells := []) (news := [.map (some gm)]) rfl rfl rfl rfl rfl rfl rfl ⟨rfl, rfl⟩ rfl (fun u hu => by rw [List.mem_singleton.1 hu]; rfl) (fun w hs j u hu => by
    have h1 : w.heap[ge0]? = some (row [.map (some gm)] 149) := fact0 hs.all
    rw [add_none, cell_of_blk h1]
    simpa using hu) (by omega) (by simp only [maxLen]; omega) (by show 1 * 8 ≤ _; omega) rfl rfl (fun qe hqe => ?_))
  obtain _ | ⟨ge, cape, exe⟩ := qe
  · have := hqe.1; omega
  refine Pw.eqL (L' := [⟨ge, row (.map (some gm) :: exe) 149⟩, ⟨gm, mapO []⟩, ⟨gl, row (.slice none 0 0 :: exl) 37⟩, ⟨gr, row [.slice (some av) 1 cz, sl [2] zc, .map (some ga), sl (ofN 1) zd, .slice (some ⟨gl, 0, none⟩) 1 capl, .slice none 0 0, .slice none 0 0] 120⟩, ⟨ga, mapO []⟩]) rfl ?_
  refine Pw.re (d := 37) (v' := .slice (some ⟨ge, 0, none⟩) 1 cape) rfl rfl ?_
  repeat (first | (with_reducible first | refine Pw.seq ?_ | refine Pw.region ?_ | refine Pw.nil ?_ | refine Pw.then_ ?_ | refine Pw.skip ?_ | refine Pw.block ?_ | refine Pw.exit ?_ | refine Pw.inX ?_ | refine Pw.inN ?_ | refine Pw.inR ?_ | refine Pw.thenX ?_ | refine Pw.thenR ?_ | refine Pw.ret ?_) | refine Pw.list (Pw.pure rfl rfl rfl ?_) | refine Pw.inY rfl ?_ | refine Pw.list (Pw.off rfl rfl ?_) | refine Pw.condT rfl ?_ | refine Pw.condF rfl ?_ | refine Pw.list (Pw.box rfl rfl rfl rfl (fun _ => ?_)) | refine Pw.list (Pw.alloc rfl rfl rfl rfl rfl (fun _ => ?_)) | refine Pw.list (Pw.build rfl rfl rfl rfl ?_) | refine Pw.list (Pw.ld rfl inferInstance rfl rfl rfl ?_) | refine Pw.list (Pw.sto rfl rfl inferInstance rfl rfl rfl rfl rfl inferInstance rfl ?_))
  obtain ⟨Ap, cp⟩ := z
  obtain ⟨Ac, cc⟩ := zc
  refine Pw.use (p := Ac.isSome = true) (fun w h => (hv w h : I1 [2] (Ac, cc) w).has (i := 0) (Int.le_refl 0) (by show (0 : Int) < 1; omega)) (fun hA => ?_)
  obtain ⟨ac, rfl⟩ := Option.isSome_iff_exists.1 hA
  refine Pw.use (p := Ap.isSome = true) (fun w h => (hv w h : heldV ⟨1, 5, [2], (Ap, cp)⟩ w).has (i := 0) (Int.le_refl 0) (by show (0 : Int) < 1; omega)) (fun hA => ?_)
  obtain ⟨ap, rfl⟩ := Option.isSome_iff_exists.1 hA
  refine Pw.rounds 3 (Pw.round ?_)
  repeat (first | (with_reducible first | refine Pw.seq ?_ | refine Pw.region ?_ | refine Pw.nil ?_ | refine Pw.then_ ?_ | refine Pw.skip ?_ | refine Pw.block ?_ | refine Pw.exit ?_ | refine Pw.inX ?_ | refine Pw.inN ?_ | refine Pw.inR ?_ | refine Pw.thenX ?_ | refine Pw.thenR ?_ | refine Pw.ret ?_) | refine Pw.list (Pw.pure rfl rfl rfl ?_) | refine Pw.inY rfl ?_ | refine Pw.list (Pw.off rfl rfl ?_) | refine Pw.condT rfl ?_ | refine Pw.condF rfl ?_ | refine Pw.list (Pw.box rfl rfl rfl rfl (fun _ => ?_)) | refine Pw.list (Pw.alloc rfl rfl rfl rfl rfl (fun _ => ?_)) | refine Pw.list (Pw.build rfl rfl rfl rfl ?_) | refine Pw.list (Pw.ld rfl inferInstance rfl rfl rfl ?_) | refine Pw.list (Pw.sto rfl rfl inferInstance rfl rfl rfl rfl rfl inferInstance rfl ?_))
  refine Pw.list (Pw.indexS rfl rfl rfl rfl (Int.le_refl 0) (by show (0 : Int) < 1; omega) rfl rfl ?_)
  refine Pw.list (Pw.load1 rfl rfl (fun w hs => (hv w hs.all : heldV ⟨1, 5, [2], (some ap, cp)⟩ w).cell (i := 0) (Int.le_refl 0) (by show (0 : Int) < 1; omega)) rfl rfl ?_)
  refine Pw.re (d := 46) (v' := .int .i64 2) rfl rfl ?_
  repeat (first | (with_reducible first | refine Pw.seq ?_ | refine Pw.region ?_ | refine Pw.nil ?_ | refine Pw.then_ ?_ | refine Pw.skip ?_ | refine Pw.block ?_ | refine Pw.exit ?_ | refine Pw.inX ?_ | refine Pw.inN ?_ | refine Pw.inR ?_ | refine Pw.thenX ?_ | refine Pw.thenR ?_ | refine Pw.ret ?_) | refine Pw.list (Pw.pure rfl rfl rfl ?_) | refine Pw.inY rfl ?_ | refine Pw.list (Pw.off rfl rfl ?_) | refine Pw.condT rfl ?_ | refine Pw.condF rfl ?_ | refine Pw.list (Pw.box rfl rfl rfl rfl (fun _ => ?_)) | refine Pw.list (Pw.alloc rfl rfl rfl rfl rfl (fun _ => ?_)) | refine Pw.list (Pw.build rfl rfl rfl rfl ?_) | refine Pw.list (Pw.ld rfl inferInstance rfl rfl rfl ?_) | refine Pw.list (Pw.sto rfl rfl inferInstance rfl rfl rfl rfl rfl inferInstance rfl ?_))
  refine Pw.list (Pw.call (Contains_ct [2] (some ac, cc) 2) rfl rfl rfl (by kernel_rfl) rfl rfl (fun w h => (hv w h)) ?_)
  intro _ _
  refine Pw.re (d := 54) (v' := .bool true) rfl rfl ?_
  repeat (first | (with_reducible first | refine Pw.seq ?_ | refine Pw.region ?_ | refine Pw.nil ?_ | refine Pw.then_ ?_ | refine Pw.skip ?_ | refine Pw.block ?_ | refine Pw.exit ?_ | refine Pw.inX ?_ | refine Pw.inN ?_ | refine Pw.inR ?_ | refine Pw.thenX ?_ | refine Pw.thenR ?_ | refine Pw.ret ?_) | refine Pw.list (Pw.pure rfl rfl rfl ?_) | refine Pw.inY rfl ?_ | refine Pw.list (Pw.off rfl rfl ?_) | refine Pw.condT rfl ?_ | refine Pw.condF rfl ?_ | refine Pw.list (Pw.box rfl rfl rfl rfl (fun _ => ?_)) | refine Pw.list (Pw.alloc rfl rfl rfl rfl rfl (fun _ => ?_)) | refine Pw.list (Pw.build rfl rfl rfl rfl ?_) | refine Pw.list (Pw.ld rfl inferInstance rfl rfl rfl ?_) | refine Pw.list (Pw.sto rfl rfl inferInstance rfl rfl rfl rfl rfl inferInstance rfl ?_))
  refine Pw.joinQ (σ := Nat × Nat) (fun _ => True) (fun t => ⟨[(1, .pointer (some ⟨g1, 0, none⟩)), (3, .pointer (some ⟨gr, 0, none⟩)), (15, .int .i64 1), (16, .int .i64 0), (42, .int .i64 1), (43, .int .i64 0)], [⟨ge, row (.map (some gm) :: exe) 149⟩, ⟨gm, mapO []⟩, ⟨gl, row (.slice none 0 0 :: exl) 37⟩, ⟨gr, row [.slice (some av) 1 cz, sl [2] (some ac, cc), .map (some ga), sl (ofN 1) zd, .slice (some ⟨gl, 0, none⟩) 1 capl, .slice (some ⟨ge, 0, none⟩) 1 cape, .slice none 0 0] 120⟩, ⟨ga, mapO [(2, .slice (some ⟨t.1, 0, none⟩) 1 t.2)]⟩], [I1 [0] (some ⟨t.1, 0, none⟩, t.2), S1 (ofN 1) zd, VS [⟨1, 5, [2], (some ap, cp)⟩] (some av, cz), I1 [2] (some ac, cc)]⟩) ?_ ?_
  · skip
    refine Pw.drawnH (g := gr) inferInstance mixed rfl rfl ?_
    refine Pw.takeP 0 (nb 15 1) rfl rfl rfl rfl (by kernel_rfl) np so ?_
    refine Pw.takeP 1 (nb 15 3) rfl rfl rfl rfl (by kernel_rfl) np so ?_
    refine Pw.takeP 2 (nb 15 7) rfl rfl rfl rfl (by kernel_rfl) np so ?_
    refine Pw.takeF 3 (nb 15 15) rfl rfl inferInstance rfl rfl rfl (by kernel_rfl) np so ?_
    refine Pw.takeP 4 (nb 15 31) rfl rfl rfl rfl (by kernel_rfl) np so ?_
    refine Pw.takeP 5 (nb 15 63) rfl rfl rfl rfl (by kernel_rfl) np so ?_
    refine Pw.takeP 6 (nb 15 127) rfl rfl rfl rfl (by kernel_rfl) np so ?_
    refine Pw.takeP 7 (nb 15 255) rfl rfl rfl rfl (by kernel_rfl) np so ?_
    refine Pw.takeF 8 (nb 15 511) rfl rfl inferInstance rfl rfl rfl (by kernel_rfl) np so ?_
    refine Pw.takeP 9 (nb 15 1023) rfl rfl rfl rfl (by kernel_rfl) np so ?_
    refine Pw.takeP 11 (nb 15 3071) rfl rfl rfl rfl (by kernel_rfl) np so ?_
    refine Pw.two 10 12 (nb 15 4095) (nb 15 7167) rfl rfl (by kernel_rfl) ?_ ?_
    · skip
      refine Pw.lookupF (m := []) rfl rfl rfl rfl rfl rfl (fun w hs => hs.own ⟨ga, mapO []⟩ (.tail _ (.tail _ (.tail _ (.tail _ (.head _)))))) rfl rfl ?_
      refine Pw.held so ?_
      refine Pw.one 12 (nb 15 8191) rfl (by kernel_rfl) ?_
      refine Pw.lit1 rfl rfl rfl rfl rfl rfl rfl rfl rfl (fun gp0 => freeHead ?_)
      refine Pw.held so ?_
      refine Pw.one 13 (nb 15 16383) rfl (by kernel_rfl) ?_
      refine Pw.push (s := none) (m := 0) (cells := []) (news := [.int .i64 0]) rfl rfl rfl rfl rfl rfl rfl ⟨rfl, rfl⟩ rfl (fun u hu => by rw [List.mem_singleton.1 hu]; rfl) (fun w hs j u hu => by
        have h1 : w.heap[gp0]? = some (row [.int .i64 0] 3) := by first | exact fact0 hs.all | exact fact1 hs.all
        rw [add_none, cell_of_blk h1]
        simpa using hu) (by omega) (by simp only [maxLen]; omega) (by show 1 * 8 ≤ _; omega) rfl rfl (fun qp hqp => ?_)
      obtain _ | ⟨gp, capp, exp⟩ := qp
      · have := hqp.1; omega
      refine freeHead (g := gp) (o := row (.int .i64 0 :: exp) 3) ?_
      refine Pw.eqL (L' := [⟨ge, row (.map (some gm) :: exe) 149⟩, ⟨gm, mapO []⟩, ⟨gl, row (.slice none 0 0 :: exl) 37⟩, ⟨gr, row [.slice (some av) 1 cz, sl [2] (some ac, cc), .map (some ga), sl (ofN 1) zd, .slice (some ⟨gl, 0, none⟩) 1 capl, .slice (some ⟨ge, 0, none⟩) 1 cape, .slice none 0 0] 120⟩, ⟨ga, mapO []⟩]) rfl ?_
      refine Pw.re (d := 69) (v' := .slice (some ⟨gp, 0, none⟩) 1 capp) rfl rfl ?_
      refine Pw.held so ?_
      refine Pw.one 14 (nb 15 32767) rfl (by kernel_rfl) ?_
      refine Pw.mapNew (m := []) (k := 2) rfl rfl rfl rfl rfl (fun p hp => by cases hp) (.tail (.tail (.tail (.tail .head)))) rfl ?_
      refine Pw.held so ?_
      refine Pw.done (by kernel_rfl) ?_
      exact Pw.then_ (Pw.arrive (gp, capp) trivial ⟨rfl, rfl, rfl, rfl, rfl, rfl, trivial⟩ rfl (fun w h => allCons (ints_of_row (l := [0]) (ex := exp) (fact0 h) hqp.2.1 (by simp [maxLen])) (allCons (hv w h) (allCons (hv w h) (allCons (hv w h) allNil)))))
    · skip
      refine Pw.lit1 rfl rfl rfl rfl rfl rfl rfl rfl rfl (fun gp0 => freeHead ?_)
      refine Pw.held so ?_
      refine Pw.one 10 (nb 15 8191) rfl (by kernel_rfl) ?_
      refine Pw.lookupF (m := []) rfl rfl rfl rfl rfl rfl (fun w hs => hs.own ⟨ga, mapO []⟩ (.tail _ (.tail _ (.tail _ (.tail _ (.head _)))))) rfl rfl ?_
      refine Pw.held so ?_
      refine Pw.one 13 (nb 15 16383) rfl (by kernel_rfl) ?_
      refine Pw.push (s := none) (m := 0) (cells := []) (news := [.int .i64 0]) rfl rfl rfl rfl rfl rfl rfl ⟨rfl, rfl⟩ rfl (fun u hu => by rw [List.mem_singleton.1 hu]; rfl) (fun w hs j u hu => by
        have h1 : w.heap[gp0]? = some (row [.int .i64 0] 3) := by first | exact fact0 hs.all | exact fact1 hs.all
        rw [add_none, cell_of_blk h1]
        simpa using hu) (by omega) (by simp only [maxLen]; omega) (by show 1 * 8 ≤ _; omega) rfl rfl (fun qp hqp => ?_)
      obtain _ | ⟨gp, capp, exp⟩ := qp
      · have := hqp.1; omega
      refine freeHead (g := gp) (o := row (.int .i64 0 :: exp) 3) ?_
      refine Pw.eqL (L' := [⟨ge, row (.map (some gm) :: exe) 149⟩, ⟨gm, mapO []⟩, ⟨gl, row (.slice none 0 0 :: exl) 37⟩, ⟨gr, row [.slice (some av) 1 cz, sl [2] (some ac, cc), .map (some ga), sl (ofN 1) zd, .slice (some ⟨gl, 0, none⟩) 1 capl, .slice (some ⟨ge, 0, none⟩) 1 cape, .slice none 0 0] 120⟩, ⟨ga, mapO []⟩]) rfl ?_
      refine Pw.re (d := 69) (v' := .slice (some ⟨gp, 0, none⟩) 1 capp) rfl rfl ?_
      refine Pw.held so ?_
      refine Pw.one 14 (nb 15 32767) rfl (by kernel_rfl) ?_
      refine Pw.mapNew (m := []) (k := 2) rfl rfl rfl rfl rfl (fun p hp => by cases hp) (.tail (.tail (.tail (.tail .head)))) rfl ?_
      refine Pw.held so ?_
      refine Pw.done (by kernel_rfl) ?_
      exact Pw.then_ (Pw.arrive (gp, capp) trivial ⟨rfl, rfl, rfl, rfl, rfl, rfl, trivial⟩ rfl (fun w h => allCons (ints_of_row (l := [0]) (ex := exp) (fact0 h) hqp.2.1 (by simp [maxLen])) (allCons (hv w h) (allCons (hv w h) (allCons (hv w h) allNil)))))
  rintro ⟨gp, capp⟩ _
  dsimp only
  repeat (first | (with_reducible first | refine Pw.seq ?_ | refine Pw.region ?_ | refine Pw.nil ?_ | refine Pw.then_ ?_ | refine Pw.skip ?_ | refine Pw.block ?_ | refine Pw.exit ?_ | refine Pw.inX ?_ | refine Pw.inN ?_ | refine Pw.inR ?_ | refine Pw.thenX ?_ | refine Pw.thenR ?_ | refine Pw.ret ?_) | refine Pw.list (Pw.pure rfl rfl rfl ?_) | refine Pw.inY rfl ?_ | refine Pw.list (Pw.off rfl rfl ?_) | refine Pw.condT rfl ?_ | refine Pw.condF rfl ?_ | refine Pw.list (Pw.box rfl rfl rfl rfl (fun _ => ?_)) | refine Pw.list (Pw.alloc rfl rfl rfl rfl rfl (fun _ => ?_)) | refine Pw.list (Pw.build rfl rfl rfl rfl ?_) | refine Pw.list (Pw.ld rfl inferInstance rfl rfl rfl ?_) | refine Pw.list (Pw.sto rfl rfl inferInstance rfl rfl rfl rfl rfl inferInstance rfl ?_))
  refine Pw.re (d := 43) (v' := .int .i64 1) rfl (by kernel_rfl) ?_
  refine Pw.round ?_
  repeat (first | (with_reducible first | refine Pw.seq ?_ | refine Pw.region ?_ | refine Pw.nil ?_ | refine Pw.then_ ?_ | refine Pw.skip ?_ | refine Pw.block ?_ | refine Pw.exit ?_ | refine Pw.inX ?_ | refine Pw.inN ?_ | refine Pw.inR ?_ | refine Pw.thenX ?_ | refine Pw.thenR ?_ | refine Pw.ret ?_) | refine Pw.list (Pw.pure rfl rfl rfl ?_) | refine Pw.inY rfl ?_ | refine Pw.list (Pw.off rfl rfl ?_) | refine Pw.condT rfl ?_ | refine Pw.condF rfl ?_ | refine Pw.list (Pw.box rfl rfl rfl rfl (fun _ => ?_)) | refine Pw.list (Pw.alloc rfl rfl rfl rfl rfl (fun _ => ?_)) | refine Pw.list (Pw.build rfl rfl rfl rfl ?_) | refine Pw.list (Pw.ld rfl inferInstance rfl rfl rfl ?_) | refine Pw.list (Pw.sto rfl rfl inferInstance rfl rfl rfl rfl rfl inferInstance rfl ?_))
  refine Pw.re (d := 16) (v' := .int .i64 1) rfl (by kernel_rfl) ?_
  refine Pw.round ?_
  repeat (first | (with_reducible first | refine Pw.seq ?_ | refine Pw.region ?_ | refine Pw.nil ?_ | refine Pw.then_ ?_ | refine Pw.skip ?_ | refine Pw.block ?_ | refine Pw.exit ?_ | refine Pw.inX ?_ | refine Pw.inN ?_ | refine Pw.inR ?_ | refine Pw.thenX ?_ | refine Pw.thenR ?_ | refine Pw.ret ?_) | refine Pw.list (Pw.pure rfl rfl rfl ?_) | refine Pw.inY rfl ?_ | refine Pw.list (Pw.off rfl rfl ?_) | refine Pw.condT rfl ?_ | refine Pw.condF rfl ?_ | refine Pw.list (Pw.box rfl rfl rfl rfl (fun _ => ?_)) | refine Pw.list (Pw.alloc rfl rfl rfl rfl rfl (fun _ => ?_)) | refine Pw.list (Pw.build rfl rfl rfl rfl ?_) | refine Pw.list (Pw.ld rfl inferInstance rfl rfl rfl ?_) | refine Pw.list (Pw.sto rfl rfl inferInstance rfl rfl rfl rfl rfl inferInstance rfl ?_))
  refine Pw.back hR (.tmp rfl .nil) rfl ?_
  clear hR
  refine freeHead ?_
  rw [ofNe1]
  repeat (first | (with_reducible first | refine Pw.seq ?_ | refine Pw.region ?_ | refine Pw.nil ?_ | refine Pw.then_ ?_ | refine Pw.skip ?_ | refine Pw.block ?_ | refine Pw.exit ?_ | refine Pw.inX ?_ | refine Pw.inN ?_ | refine Pw.inR ?_ | refine Pw.thenX ?_ | refine Pw.thenR ?_ | refine Pw.ret ?_) | refine Pw.list (Pw.pure rfl rfl rfl ?_) | refine Pw.inY rfl ?_ | refine Pw.list (Pw.off rfl rfl ?_) | refine Pw.condT rfl ?_ | refine Pw.condF rfl ?_ | refine Pw.list (Pw.box rfl rfl rfl rfl (fun _ => ?_)) | refine Pw.list (Pw.alloc rfl rfl rfl rfl rfl (fun _ => ?_)) | refine Pw.list (Pw.build rfl rfl rfl rfl ?_) | refine Pw.list (Pw.ld rfl inferInstance rfl rfl rfl ?_) | refine Pw.list (Pw.sto rfl rfl inferInstance rfl rfl rfl rfl rfl inferInstance rfl ?_))
  refine Pw.rounds 3 (Pw.round ?_)
  repeat (first | (with_reducible first | refine Pw.seq ?_ | refine Pw.region ?_ | refine Pw.nil ?_ | refine Pw.then_ ?_ | refine Pw.skip ?_ | refine Pw.block ?_ | refine Pw.exit ?_ | refine Pw.inX ?_ | refine Pw.inN ?_ | refine Pw.inR ?_ | refine Pw.thenX ?_ | refine Pw.thenR ?_ | refine Pw.ret ?_) | refine Pw.list (Pw.pure rfl rfl rfl ?_) | refine Pw.inY rfl ?_ | refine Pw.list (Pw.off rfl rfl ?_) | refine Pw.condT rfl ?_ | refine Pw.condF rfl ?_ | refine Pw.list (Pw.box rfl rfl rfl rfl (fun _ => ?_)) | refine Pw.list (Pw.alloc rfl rfl rfl rfl rfl (fun _ => ?_)) | refine Pw.list (Pw.build rfl rfl rfl rfl ?_) | refine Pw.list (Pw.ld rfl inferInstance rfl rfl rfl ?_) | refine Pw.list (Pw.sto rfl rfl inferInstance rfl rfl rfl rfl rfl inferInstance rfl ?_))
  refine Pw.list (Pw.inline (K' := [(0, .pointer (some ⟨gr, 0, none⟩))]) Try.func59 rfl rfl rfl rfl (by kernel_rfl) rfl rfl rfl (slots_of rfl slots1) (fun R hR => ?_))
  repeat (first | (with_reducible first | refine Pw.seq ?_ | refine Pw.region ?_ | refine Pw.nil ?_ | refine Pw.then_ ?_ | refine Pw.skip ?_ | refine Pw.block ?_ | refine Pw.exit ?_ | refine Pw.inX ?_ | refine Pw.inN ?_ | refine Pw.inR ?_ | refine Pw.thenX ?_ | refine Pw.thenR ?_ | refine Pw.ret ?_) | refine Pw.list (Pw.pure rfl rfl rfl ?_) | refine Pw.inY rfl ?_ | refine Pw.list (Pw.off rfl rfl ?_) | refine Pw.condT rfl ?_ | refine Pw.condF rfl ?_ | refine Pw.list (Pw.box rfl rfl rfl rfl (fun _ => ?_)) | refine Pw.list (Pw.alloc rfl rfl rfl rfl rfl (fun _ => ?_)) | refine Pw.list (Pw.build rfl rfl rfl rfl ?_) | refine Pw.list (Pw.ld rfl inferInstance rfl rfl rfl ?_) | refine Pw.list (Pw.sto rfl rfl inferInstance rfl rfl rfl rfl rfl inferInstance rfl ?_))
  refine Pw.rounds 3 (Pw.round ?_)
  repeat (first | (with_reducible first | refine Pw.seq ?_ | refine Pw.region ?_ | refine Pw.nil ?_ | refine Pw.then_ ?_ | refine Pw.skip ?_ | refine Pw.block ?_ | refine Pw.exit ?_ | refine Pw.inX ?_ | refine Pw.inN ?_ | refine Pw.inR ?_ | refine Pw.thenX ?_ | refine Pw.thenR ?_ | refine Pw.ret ?_) | refine Pw.list (Pw.pure rfl rfl rfl ?_) | refine Pw.inY rfl ?_ | refine Pw.list (Pw.off rfl rfl ?_) | refine Pw.condT rfl ?_ | refine Pw.condF rfl ?_ | refine Pw.list (Pw.box rfl rfl rfl rfl (fun _ => ?_)) | refine Pw.list (Pw.alloc rfl rfl rfl rfl rfl (fun _ => ?_)) | refine Pw.list (Pw.build rfl rfl rfl rfl ?_) | refine Pw.list (Pw.ld rfl inferInstance rfl rfl rfl ?_) | refine Pw.list (Pw.sto rfl rfl inferInstance rfl rfl rfl rfl rfl inferInstance rfl ?_))
  refine Pw.list (Pw.indexS rfl rfl rfl rfl (Int.le_refl 0) (by show (0 : Int) < 1; omega) rfl rfl ?_)
  refine Pw.list (Pw.load1 rfl rfl (fun w hs => (hv w hs.all : I1 [2] (some ac, cc) w).cell (i := 0) (Int.le_refl 0) (by show (0 : Int) < 1; omega)) rfl rfl ?_)
  refine Pw.re (d := 26) (v' := .int .i64 2) rfl rfl ?_
  refine Pw.list (Pw.alloc rfl rfl rfl rfl rfl (fun g7 => ?_))
  repeat (first | (with_reducible first | refine Pw.seq ?_ | refine Pw.region ?_ | refine Pw.nil ?_ | refine Pw.then_ ?_ | refine Pw.skip ?_ | refine Pw.block ?_ | refine Pw.exit ?_ | refine Pw.inX ?_ | refine Pw.inN ?_ | refine Pw.inR ?_ | refine Pw.thenX ?_ | refine Pw.thenR ?_ | refine Pw.ret ?_) | refine Pw.list (Pw.pure rfl rfl rfl ?_) | refine Pw.inY rfl ?_ | refine Pw.list (Pw.off rfl rfl ?_) | refine Pw.condT rfl ?_ | refine Pw.condF rfl ?_ | refine Pw.list (Pw.box rfl rfl rfl rfl (fun _ => ?_)) | refine Pw.list (Pw.alloc rfl rfl rfl rfl rfl (fun _ => ?_)) | refine Pw.list (Pw.build rfl rfl rfl rfl ?_) | refine Pw.list (Pw.ld rfl inferInstance rfl rfl rfl ?_) | refine Pw.list (Pw.sto rfl rfl inferInstance rfl rfl rfl rfl rfl inferInstance rfl ?_))
  refine freeHead ?_
  refine Pw.drawnH (g := gr) inferInstance mixed rfl rfl ?_
  refine Pw.takeP 0 (nb 16 1) rfl rfl rfl rfl (by kernel_rfl) np so ?_
  refine Pw.takeP 1 (nb 16 3) rfl rfl rfl rfl (by kernel_rfl) np so ?_
  refine Pw.takeP 2 (nb 16 7) rfl rfl rfl rfl (by kernel_rfl) np so ?_
  refine Pw.takeF 3 (nb 16 15) rfl rfl inferInstance rfl rfl rfl (by kernel_rfl) np so ?_
  refine Pw.takeF 4 (nb 16 31) rfl rfl inferInstance rfl rfl rfl (by kernel_rfl) np so ?_
  refine Pw.one 5 (nb 16 63) rfl (by kernel_rfl) ?_
  refine Pw.lookupF (m := [(2, .slice (some ⟨gp, 0, none⟩) 1 capp)]) rfl rfl rfl rfl rfl rfl (fun w hs => hs.own ⟨ga, _⟩ (.tail _ (.tail _ (.tail _ (.head _))))) rfl rfl ?_
  refine Pw.held so ?_
  refine Pw.takeP 6 (nb 16 127) rfl rfl rfl rfl (by kernel_rfl) np so ?_
  refine Pw.takeP 7 (nb 16 255) rfl rfl rfl rfl (by kernel_rfl) np so ?_
  refine Pw.takeP 8 (nb 16 511) rfl rfl rfl rfl (by kernel_rfl) np so ?_
  refine Pw.takeP 9 (nb 16 1023) rfl rfl rfl rfl (by kernel_rfl) np so ?_
  refine Pw.takeP 10 (nb 16 2047) rfl rfl rfl rfl (by kernel_rfl) np so ?_
  refine Pw.takeP 11 (nb 16 4095) rfl rfl rfl rfl (by kernel_rfl) np so ?_
  refine Pw.takeF 12 (nb 16 8191) rfl rfl inferInstance rfl rfl rfl (by kernel_rfl) np so ?_
  refine Pw.takeP 13 (nb 16 16383) rfl rfl rfl rfl (by kernel_rfl) np so ?_
  refine Pw.one 14 (nb 16 32767) rfl (by kernel_rfl) ?_
  refine Pw.call (ContainsSeat0_ct _) rfl rfl rfl (by kernel_rfl) rfl rfl (fun w h => trivial) ?_
  intro _ _
  refine Pw.held so ?_
  refine Pw.takeP 15 (nb 16 65535) rfl rfl rfl rfl (by kernel_rfl) np so ?_
  refine Pw.done (by kernel_rfl) ?_
  skip
  repeat (first | (with_reducible first | refine Pw.seq ?_ | refine Pw.region ?_ | refine Pw.nil ?_ | refine Pw.then_ ?_ | refine Pw.skip ?_ | refine Pw.block ?_ | refine Pw.exit ?_ | refine Pw.inX ?_ | refine Pw.inN ?_ | refine Pw.inR ?_ | refine Pw.thenX ?_ | refine Pw.thenR ?_ | refine Pw.ret ?_) | refine Pw.list (Pw.pure rfl rfl rfl ?_) | refine Pw.inY rfl ?_ | refine Pw.list (Pw.off rfl rfl ?_) | refine Pw.condT rfl ?_ | refine Pw.condF rfl ?_ | refine Pw.list (Pw.box rfl rfl rfl rfl (fun _ => ?_)) | refine Pw.list (Pw.alloc rfl rfl rfl rfl rfl (fun _ => ?_)) | refine Pw.list (Pw.build rfl rfl rfl rfl ?_) | refine Pw.list (Pw.ld rfl inferInstance rfl rfl rfl ?_) | refine Pw.list (Pw.sto rfl rfl inferInstance rfl rfl rfl rfl rfl inferInstance rfl ?_))
  refine Pw.list (Pw.inline (K' := [(0, .pointer (some ⟨gr, 0, none⟩)), (1, .int .i64 2)]) Try.func91 rfl rfl rfl rfl (by kernel_rfl) rfl rfl rfl (slots_of rfl slots2) (fun R hR => ?_))
  repeat (first | (with_reducible first | refine Pw.seq ?_ | refine Pw.region ?_ | refine Pw.nil ?_ | refine Pw.then_ ?_ | refine Pw.skip ?_ | refine Pw.block ?_ | refine Pw.exit ?_ | refine Pw.inX ?_ | refine Pw.inN ?_ | refine Pw.inR ?_ | refine Pw.thenX ?_ | refine Pw.thenR ?_ | refine Pw.ret ?_) | refine Pw.list (Pw.pure rfl rfl rfl ?_) | refine Pw.inY rfl ?_ | refine Pw.list (Pw.off rfl rfl ?_) | refine Pw.condT rfl ?_ | refine Pw.condF rfl ?_ | refine Pw.list (Pw.box rfl rfl rfl rfl (fun _ => ?_)) | refine Pw.list (Pw.alloc rfl rfl rfl rfl rfl (fun _ => ?_)) | refine Pw.list (Pw.build rfl rfl rfl rfl ?_) | refine Pw.list (Pw.ld rfl inferInstance rfl rfl rfl ?_) | refine Pw.list (Pw.sto rfl rfl inferInstance rfl rfl rfl rfl rfl inferInstance rfl ?_))
  refine Pw.list (Pw.lookupF (m := [(2, .slice (some ⟨gp, 0, none⟩) 1 capp)]) rfl rfl rfl rfl rfl rfl (fun w hs => hs.own ⟨ga, _⟩ (.tail _ (.tail _ (.tail _ (.head _))))) rfl rfl ?_)
  refine Pw.re (d := 17) (v' := .slice (some ⟨gp, 0, none⟩) 1 capp) rfl rfl ?_
  repeat (first | (with_reducible first | refine Pw.seq ?_ | refine Pw.region ?_ | refine Pw.nil ?_ | refine Pw.then_ ?_ | refine Pw.skip ?_ | refine Pw.block ?_ | refine Pw.exit ?_ | refine Pw.inX ?_ | refine Pw.inN ?_ | refine Pw.inR ?_ | refine Pw.thenX ?_ | refine Pw.thenR ?_ | refine Pw.ret ?_) | refine Pw.list (Pw.pure rfl rfl rfl ?_) | refine Pw.inY rfl ?_ | refine Pw.list (Pw.off rfl rfl ?_) | refine Pw.condT rfl ?_ | refine Pw.condF rfl ?_ | refine Pw.list (Pw.box rfl rfl rfl rfl (fun _ => ?_)) | refine Pw.list (Pw.alloc rfl rfl rfl rfl rfl (fun _ => ?_)) | refine Pw.list (Pw.build rfl rfl rfl rfl ?_) | refine Pw.list (Pw.ld rfl inferInstance rfl rfl rfl ?_) | refine Pw.list (Pw.sto rfl rfl inferInstance rfl rfl rfl rfl rfl inferInstance rfl ?_))
  refine Pw.rounds 3 (Pw.round ?_)
  repeat (first | (with_reducible first | refine Pw.seq ?_ | refine Pw.region ?_ | refine Pw.nil ?_ | refine Pw.then_ ?_ | refine Pw.skip ?_ | refine Pw.block ?_ | refine Pw.exit ?_ | refine Pw.inX ?_ | refine Pw.inN ?_ | refine Pw.inR ?_ | refine Pw.thenX ?_ | refine Pw.thenR ?_ | refine Pw.ret ?_) | refine Pw.list (Pw.pure rfl rfl rfl ?_) | refine Pw.inY rfl ?_ | refine Pw.list (Pw.off rfl rfl ?_) | refine Pw.condT rfl ?_ | refine Pw.condF rfl ?_ | refine Pw.list (Pw.box rfl rfl rfl rfl (fun _ => ?_)) | refine Pw.list (Pw.alloc rfl rfl rfl rfl rfl (fun _ => ?_)) | refine Pw.list (Pw.build rfl rfl rfl rfl ?_) | refine Pw.list (Pw.ld rfl inferInstance rfl rfl rfl ?_) | refine Pw.list (Pw.sto rfl rfl inferInstance rfl rfl rfl rfl rfl inferInstance rfl ?_))
  refine Pw.list (Pw.indexS rfl rfl rfl rfl (Int.le_refl 0) (by show (0 : Int) < 1; omega) rfl rfl ?_)
  refine Pw.list (Pw.load1 rfl rfl (fun w hs => (hv w hs.all : I1 [0] (some ⟨gp, 0, none⟩, capp) w).cell (i := 0) (Int.le_refl 0) (by show (0 : Int) < 1; omega)) rfl rfl ?_)
  refine Pw.re (d := 22) (v' := .int .i64 0) rfl rfl ?_
  repeat (first | (with_reducible first | refine Pw.seq ?_ | refine Pw.region ?_ | refine Pw.nil ?_ | refine Pw.then_ ?_ | refine Pw.skip ?_ | refine Pw.block ?_ | refine Pw.exit ?_ | refine Pw.inX ?_ | refine Pw.inN ?_ | refine Pw.inR ?_ | refine Pw.thenX ?_ | refine Pw.thenR ?_ | refine Pw.ret ?_) | refine Pw.list (Pw.pure rfl rfl rfl ?_) | refine Pw.inY rfl ?_ | refine Pw.list (Pw.off rfl rfl ?_) | refine Pw.condT rfl ?_ | refine Pw.condF rfl ?_ | refine Pw.list (Pw.box rfl rfl rfl rfl (fun _ => ?_)) | refine Pw.list (Pw.alloc rfl rfl rfl rfl rfl (fun _ => ?_)) | refine Pw.list (Pw.build rfl rfl rfl rfl ?_) | refine Pw.list (Pw.ld rfl inferInstance rfl rfl rfl ?_) | refine Pw.list (Pw.sto rfl rfl inferInstance rfl rfl rfl rfl rfl inferInstance rfl ?_))
  refine Pw.drawnH2 (g := gr) (g' := gl) inferInstance inferInstance mixed rfl rfl ?_
  refine Pw.takeP 0 (nb 23 1) rfl rfl rfl rfl (by kernel_rfl) np so ?_
  refine Pw.takeP 1 (nb 23 3) rfl rfl rfl rfl (by kernel_rfl) np so ?_
  refine Pw.takeP 2 (nb 23 7) rfl rfl rfl rfl (by kernel_rfl) np so ?_
  refine Pw.takeP 3 (nb 23 15) rfl rfl rfl rfl (by kernel_rfl) np so ?_
  refine Pw.takeF 4 (nb 23 31) rfl rfl inferInstance rfl rfl rfl (by kernel_rfl) np so ?_
  refine Pw.takeP 5 (nb 23 63) rfl rfl rfl rfl (by kernel_rfl) np so ?_
  refine Pw.takeIx 6 (nb 23 127) rfl rfl rfl rfl rfl (by first | assumption | omega) (by first | assumption | omega) rfl rfl (by kernel_rfl) np so ?_
  refine Pw.takeF 7 (nb 23 255) rfl rfl inferInstance rfl rfl rfl (by kernel_rfl) np so ?_
  refine Pw.takeP 8 (nb 23 511) rfl rfl rfl rfl (by kernel_rfl) np so ?_
  refine Pw.takeP 9 (nb 23 1023) rfl rfl rfl rfl (by kernel_rfl) np so ?_
  refine Pw.takeP 10 (nb 23 2047) rfl rfl rfl rfl (by kernel_rfl) np so ?_
  refine Pw.takeP 11 (nb 23 4095) rfl rfl rfl rfl (by kernel_rfl) np so ?_
  refine Pw.takeF 12 (nb 23 8191) rfl rfl inferInstance rfl rfl rfl (by kernel_rfl) np so ?_
  refine Pw.takeP 13 (nb 23 16383) rfl rfl rfl rfl (by kernel_rfl) np so ?_
  refine Pw.takeIx 14 (nb 23 32767) rfl rfl rfl rfl rfl (by first | assumption | omega) (by first | assumption | omega) rfl rfl (by kernel_rfl) np so ?_
  refine Pw.takeFS 15 (nb 23 65535) rfl rfl rfl rfl rfl rfl rfl rfl (by kernel_rfl) np so ?_
  refine Pw.one 16 (nb 23 131071) rfl (by kernel_rfl) ?_
  refine Pw.loadF (⟨1, 5, [2], (some ap, cp)⟩ : Vtr) rfl inferInstance rfl rfl rfl rfl rfl rfl ?_
  refine Pw.held so ?_
  refine Pw.one 17 (nb 23 262143) rfl (by kernel_rfl) ?_
  refine Pw.call (times_ct [] (none, 0) 5 (fun x hx => by cases hx) (by simp)) rfl rfl rfl (by kernel_rfl) rfl rfl (fun w h => Rows.nil _ _ _ _ _) ?_
  intro zt _
  rw [t05]
  refine Pw.held so ?_
  refine Pw.one 18 (nb 23 524287) rfl (by kernel_rfl) ?_
  refine Pw.call (Add_ct [1] [] zd zt lm1 lm0 (by simp) (by simp)) rfl rfl rfl (by kernel_rfl) rfl rfl (fun w h => ⟨(hv w h), (hv w h)⟩) ?_
  intro zs _
  rw [a10]
  refine Pw.held so ?_
  refine Pw.takeP 19 (nb 23 1048575) rfl rfl rfl rfl (by kernel_rfl) np so ?_
  refine Pw.takeP 20 (nb 23 2097151) rfl rfl rfl rfl (by kernel_rfl) np so ?_
  refine Pw.takeP 21 (nb 23 4194303) rfl rfl rfl rfl (by kernel_rfl) np so ?_
  refine Pw.takeP 22 (nb 23 8388607) rfl rfl rfl rfl (by kernel_rfl) np so ?_
  refine Pw.done (by kernel_rfl) ?_
  skip
  repeat (first | (with_reducible first | refine Pw.seq ?_ | refine Pw.region ?_ | refine Pw.nil ?_ | refine Pw.then_ ?_ | refine Pw.skip ?_ | refine Pw.block ?_ | refine Pw.exit ?_ | refine Pw.inX ?_ | refine Pw.inN ?_ | refine Pw.inR ?_ | refine Pw.thenX ?_ | refine Pw.thenR ?_ | refine Pw.ret ?_) | refine Pw.list (Pw.pure rfl rfl rfl ?_) | refine Pw.inY rfl ?_ | refine Pw.list (Pw.off rfl rfl ?_) | refine Pw.condT rfl ?_ | refine Pw.condF rfl ?_ | refine Pw.list (Pw.box rfl rfl rfl rfl (fun _ => ?_)) | refine Pw.list (Pw.alloc rfl rfl rfl rfl rfl (fun _ => ?_)) | refine Pw.list (Pw.build rfl rfl rfl rfl ?_) | refine Pw.list (Pw.ld rfl inferInstance rfl rfl rfl ?_) | refine Pw.list (Pw.sto rfl rfl inferInstance rfl rfl rfl rfl rfl inferInstance rfl ?_))
  refine Pw.list (Pw.indexS rfl rfl rfl rfl (Int.le_refl 0) (by show (0 : Int) < 1; omega) rfl rfl ?_)
  refine Pw.list (Pw.fieldS rfl rfl rfl rfl rfl rfl rfl ?_)
  refine Pw.list (Pw.loadF (⟨1, 5, [2], (some ap, cp)⟩ : Vtr) rfl inferInstance rfl rfl rfl rfl rfl rfl ?_)
  repeat (first | (with_reducible first | refine Pw.seq ?_ | refine Pw.region ?_ | refine Pw.nil ?_ | refine Pw.then_ ?_ | refine Pw.skip ?_ | refine Pw.block ?_ | refine Pw.exit ?_ | refine Pw.inX ?_ | refine Pw.inN ?_ | refine Pw.inR ?_ | refine Pw.thenX ?_ | refine Pw.thenR ?_ | refine Pw.ret ?_) | refine Pw.list (Pw.pure rfl rfl rfl ?_) | refine Pw.inY rfl ?_ | refine Pw.list (Pw.off rfl rfl ?_) | refine Pw.condT rfl ?_ | refine Pw.condF rfl ?_ | refine Pw.list (Pw.box rfl rfl rfl rfl (fun _ => ?_)) | refine Pw.list (Pw.alloc rfl rfl rfl rfl rfl (fun _ => ?_)) | refine Pw.list (Pw.build rfl rfl rfl rfl ?_) | refine Pw.list (Pw.ld rfl inferInstance rfl rfl rfl ?_) | refine Pw.list (Pw.sto rfl rfl inferInstance rfl rfl rfl rfl rfl inferInstance rfl ?_))
  refine Pw.re (d := 5) (v' := .int .u64 5) rfl (by kernel_rfl) ?_
  refine Pw.re (d := 19) (v' := .int .i64 1) rfl (by kernel_rfl) ?_
  refine Pw.round ?_
  repeat (first | (with_reducible first | refine Pw.seq ?_ | refine Pw.region ?_ | refine Pw.nil ?_ | refine Pw.then_ ?_ | refine Pw.skip ?_ | refine Pw.block ?_ | refine Pw.exit ?_ | refine Pw.inX ?_ | refine Pw.inN ?_ | refine Pw.inR ?_ | refine Pw.thenX ?_ | refine Pw.thenR ?_ | refine Pw.ret ?_) | refine Pw.list (Pw.pure rfl rfl rfl ?_) | refine Pw.inY rfl ?_ | refine Pw.list (Pw.off rfl rfl ?_) | refine Pw.condT rfl ?_ | refine Pw.condF rfl ?_ | refine Pw.list (Pw.box rfl rfl rfl rfl (fun _ => ?_)) | refine Pw.list (Pw.alloc rfl rfl rfl rfl rfl (fun _ => ?_)) | refine Pw.list (Pw.build rfl rfl rfl rfl ?_) | refine Pw.list (Pw.ld rfl inferInstance rfl rfl rfl ?_) | refine Pw.list (Pw.sto rfl rfl inferInstance rfl rfl rfl rfl rfl inferInstance rfl ?_))
  refine Pw.back hR (.tmp rfl (.tmp rfl .nil)) rfl ?_
  clear hR
  repeat (first | (with_reducible first | refine Pw.seq ?_ | refine Pw.region ?_ | refine Pw.nil ?_ | refine Pw.then_ ?_ | refine Pw.skip ?_ | refine Pw.block ?_ | refine Pw.exit ?_ | refine Pw.inX ?_ | refine Pw.inN ?_ | refine Pw.inR ?_ | refine Pw.thenX ?_ | refine Pw.thenR ?_ | refine Pw.ret ?_) | refine Pw.list (Pw.pure rfl rfl rfl ?_) | refine Pw.inY rfl ?_ | refine Pw.list (Pw.off rfl rfl ?_) | refine Pw.condT rfl ?_ | refine Pw.condF rfl ?_ | refine Pw.list (Pw.box rfl rfl rfl rfl (fun _ => ?_)) | refine Pw.list (Pw.alloc rfl rfl rfl rfl rfl (fun _ => ?_)) | refine Pw.list (Pw.build rfl rfl rfl rfl ?_) | refine Pw.list (Pw.ld rfl inferInstance rfl rfl rfl ?_) | refine Pw.list (Pw.sto rfl rfl inferInstance rfl rfl rfl rfl rfl inferInstance rfl ?_))
  refine Pw.re (d := 3) (v' := .int .i64 2) rfl rfl ?_
  refine Pw.re (d := 5) (v' := .int .u64 5) rfl rfl ?_
  refine Pw.re (d := 4) (v' := sl [1] zs) rfl rfl ?_
  refine Pw.re (d := 23) (v' := .int .i64 1) rfl (by kernel_rfl) ?_
  refine Pw.round ?_
  repeat (first | (with_reducible first | refine Pw.seq ?_ | refine Pw.region ?_ | refine Pw.nil ?_ | refine Pw.then_ ?_ | refine Pw.skip ?_ | refine Pw.block ?_ | refine Pw.exit ?_ | refine Pw.inX ?_ | refine Pw.inN ?_ | refine Pw.inR ?_ | refine Pw.thenX ?_ | refine Pw.thenR ?_ | refine Pw.ret ?_) | refine Pw.list (Pw.pure rfl rfl rfl ?_) | refine Pw.inY rfl ?_ | refine Pw.list (Pw.off rfl rfl ?_) | refine Pw.condT rfl ?_ | refine Pw.condF rfl ?_ | refine Pw.list (Pw.box rfl rfl rfl rfl (fun _ => ?_)) | refine Pw.list (Pw.alloc rfl rfl rfl rfl rfl (fun _ => ?_)) | refine Pw.list (Pw.build rfl rfl rfl rfl ?_) | refine Pw.list (Pw.ld rfl inferInstance rfl rfl rfl ?_) | refine Pw.list (Pw.sto rfl rfl inferInstance rfl rfl rfl rfl rfl inferInstance rfl ?_))
  refine Pw.list (Pw.call (times_ct [1] zd 5 lm1 (by simp)) rfl rfl rfl (by kernel_rfl) rfl rfl (fun w h => (hv w h)) ?_)
  intro zn _
  rw [t15]
  repeat (first | (with_reducible first | refine Pw.seq ?_ | refine Pw.region ?_ | refine Pw.nil ?_ | refine Pw.then_ ?_ | refine Pw.skip ?_ | refine Pw.block ?_ | refine Pw.exit ?_ | refine Pw.inX ?_ | refine Pw.inN ?_ | refine Pw.inR ?_ | refine Pw.thenX ?_ | refine Pw.thenR ?_ | refine Pw.ret ?_) | refine Pw.list (Pw.pure rfl rfl rfl ?_) | refine Pw.inY rfl ?_ | refine Pw.list (Pw.off rfl rfl ?_) | refine Pw.condT rfl ?_ | refine Pw.condF rfl ?_ | refine Pw.list (Pw.box rfl rfl rfl rfl (fun _ => ?_)) | refine Pw.list (Pw.alloc rfl rfl rfl rfl rfl (fun _ => ?_)) | refine Pw.list (Pw.build rfl rfl rfl rfl ?_) | refine Pw.list (Pw.ld rfl inferInstance rfl rfl rfl ?_) | refine Pw.list (Pw.sto rfl rfl inferInstance rfl rfl rfl rfl rfl inferInstance rfl ?_))
  refine Pw.list (Pw.call (Make_ct [1] [5] zs zn lm1 lm5 (by simp) (by simp)) rfl rfl rfl (by kernel_rfl) rfl rfl (fun w h => ⟨(hv w h), (hv w h)⟩) ?_)
  intro zw _
  generalize makeS [1] [5] = mw
  obtain ⟨m1, m2, m3⟩ := mw
  repeat (first | (with_reducible first | refine Pw.seq ?_ | refine Pw.region ?_ | refine Pw.nil ?_ | refine Pw.then_ ?_ | refine Pw.skip ?_ | refine Pw.block ?_ | refine Pw.exit ?_ | refine Pw.inX ?_ | refine Pw.inN ?_ | refine Pw.inR ?_ | refine Pw.thenX ?_ | refine Pw.thenR ?_ | refine Pw.ret ?_) | refine Pw.list (Pw.pure rfl rfl rfl ?_) | refine Pw.inY rfl ?_ | refine Pw.list (Pw.off rfl rfl ?_) | refine Pw.condT rfl ?_ | refine Pw.condF rfl ?_ | refine Pw.list (Pw.box rfl rfl rfl rfl (fun _ => ?_)) | refine Pw.list (Pw.alloc rfl rfl rfl rfl rfl (fun _ => ?_)) | refine Pw.list (Pw.build rfl rfl rfl rfl ?_) | refine Pw.list (Pw.ld rfl inferInstance rfl rfl rfl ?_) | refine Pw.list (Pw.sto rfl rfl inferInstance rfl rfl rfl rfl rfl inferInstance rfl ?_))
  refine freeHead ?_
  refine Pw.joinQ (σ := Nat × Nat) (fun _ => True) (fun t => ⟨[(0, .pointer (some ⟨gr, 0, none⟩)), (3, .int .i64 2), (4, sl [1] zs), (5, .int .u64 5)], [⟨gm, mapO []⟩, ⟨gl, row (.slice none 0 0 :: exl) 37⟩, ⟨gr, row [.slice (some av) 1 cz, sl [2] (some ac, cc), .map (some ga), sl [5] zn, .slice (some ⟨gl, 0, none⟩) 1 capl, .slice (some ⟨ge, 0, none⟩) 1 cape, .slice (some ⟨t.1, 0, none⟩) 1 t.2] 120⟩, ⟨ga, mapO [(2, .slice (some ⟨gp, 0, none⟩) 1 capp)]⟩], [fun W => W.cell? ⟨t.1, 0, none⟩ = some (.int .i64 2), fun W => W.heap[ge]? = some (row (.map (some gm) :: exe) 149), I1 [0] (some ⟨gp, 0, none⟩, capp), S1 [1] zs, S1 [5] zn, VS [⟨1, 5, [2], (some ap, cp)⟩] (some av, cz), I1 [2] (some ac, cc)]⟩) ?_ ?_
  · skip
    refine Pw.drawnG mixed rfl rfl ?_
    refine Pw.takeP 0 (nb 13 1) rfl rfl rfl rfl (by kernel_rfl) np sf ?_
    refine Pw.takeP 1 (nb 13 3) rfl rfl rfl rfl (by kernel_rfl) np sf ?_
    refine Pw.takeP 2 (nb 13 7) rfl rfl rfl rfl (by kernel_rfl) np sf ?_
    refine Pw.takeP 3 (nb 13 15) rfl rfl rfl rfl (by kernel_rfl) np sf ?_
    refine Pw.takeP 5 (nb 13 47) rfl rfl rfl rfl (by kernel_rfl) np sf ?_
    refine Pw.takeF 6 (nb 13 111) rfl rfl inferInstance rfl rfl rfl (by kernel_rfl) np sf ?_
    refine Pw.takeBuild 7 (nb 13 239) rfl rfl rfl rfl rfl (by kernel_rfl) np sf ?_
    refine Pw.two 4 8 (nb 13 255) (nb 13 495) rfl rfl (by kernel_rfl) ?_ ?_
    · skip
      refine Pw.ld rfl inferInstance rfl rfl rfl ?_
      refine Pw.held sf ?_
      refine Pw.one 8 (nb 13 511) rfl (by kernel_rfl) ?_
      refine Pw.lit13 rfl rfl rfl rfl rfl rfl rfl rfl rfl (fun gb0 => freeHead ?_)
      refine Pw.held sf ?_
      refine Pw.one 9 (nb 13 1023) rfl (by kernel_rfl) ?_
      refine Pw.push (s := none) (m := 0) (cells := []) (news := [.int .i64 2, sl m1 zw.1, sl m2 zw.2]) rfl rfl rfl rfl rfl rfl rfl ⟨rfl, rfl⟩ rfl (fun u hu => by
        simp only [List.mem_cons, List.not_mem_nil, or_false] at hu
        rcases hu with rfl | rfl | rfl <;> rfl) (fun w hs j u hu => by
        have h1 : w.heap[gb0]? = some (row [.int .i64 2, sl m1 zw.1, sl m2 zw.2] 72) := by first | exact fact0 hs.all | exact fact1 hs.all
        rw [add_none, cell_of_blk h1]
        simpa using hu) (by omega) (by simp only [maxLen]; omega) (by show 1 * 56 ≤ _; omega) rfl rfl (fun qs hqs => ?_)
      obtain _ | ⟨gs, caps, exs⟩ := qs
      · have := hqs.1; omega
      refine freeHead (g := gs) (o := row (.int .i64 2 :: sl m1 zw.1 :: sl m2 zw.2 :: exs) 72) ?_
      refine Pw.eqL (L' := [⟨gm, mapO []⟩, ⟨gl, row (.slice none 0 0 :: exl) 37⟩, ⟨gr, row [.slice (some av) 1 cz, sl [2] (some ac, cc), .map (some ga), sl [5] zn, .slice (some ⟨gl, 0, none⟩) 1 capl, .slice (some ⟨ge, 0, none⟩) 1 cape, .slice none 0 0] 120⟩, ⟨ga, mapO [(2, .slice (some ⟨gp, 0, none⟩) 1 capp)]⟩]) rfl ?_
      refine Pw.re (d := 94) (v' := .slice (some ⟨gs, 0, none⟩) 1 caps) rfl rfl ?_
      refine Pw.held sf ?_
      refine Pw.takeP 10 (nb 13 2047) rfl rfl rfl rfl (by kernel_rfl) np sf ?_
      refine Pw.takeP 11 (nb 13 4095) rfl rfl rfl rfl (by kernel_rfl) np sf ?_
      refine Pw.one 12 (nb 13 8191) rfl (by kernel_rfl) ?_
      refine Pw.sto rfl rfl inferInstance rfl rfl rfl rfl rfl inferInstance rfl ?_
      refine Pw.held sf ?_
      refine Pw.done (by kernel_rfl) ?_
      exact Pw.then_ (Pw.arrive (gs, caps) trivial ⟨rfl, rfl, rfl, rfl, trivial⟩ rfl (fun w h => allCons (by rw [cell_of_blk (fact0 h)]; rfl) (allCons (Blks.h (L := []) (g := ge) w (fun b hb => by cases hb) h) (allCons (hv w h) (allCons (hv w h) (allCons (hv w h) (allCons (hv w h) (allCons (hv w h) allNil))))))))
    · skip
      refine Pw.lit13 rfl rfl rfl rfl rfl rfl rfl rfl rfl (fun gb0 => freeHead ?_)
      refine Pw.held sf ?_
      refine Pw.one 4 (nb 13 511) rfl (by kernel_rfl) ?_
      refine Pw.ld rfl inferInstance rfl rfl rfl ?_
      refine Pw.held sf ?_
      refine Pw.one 9 (nb 13 1023) rfl (by kernel_rfl) ?_
      refine Pw.push (s := none) (m := 0) (cells := []) (news := [.int .i64 2, sl m1 zw.1, sl m2 zw.2]) rfl rfl rfl rfl rfl rfl rfl ⟨rfl, rfl⟩ rfl (fun u hu => by
        simp only [List.mem_cons, List.not_mem_nil, or_false] at hu
        rcases hu with rfl | rfl | rfl <;> rfl) (fun w hs j u hu => by
        have h1 : w.heap[gb0]? = some (row [.int .i64 2, sl m1 zw.1, sl m2 zw.2] 72) := by first | exact fact0 hs.all | exact fact1 hs.all
        rw [add_none, cell_of_blk h1]
        simpa using hu) (by omega) (by simp only [maxLen]; omega) (by show 1 * 56 ≤ _; omega) rfl rfl (fun qs hqs => ?_)
      obtain _ | ⟨gs, caps, exs⟩ := qs
      · have := hqs.1; omega
      refine freeHead (g := gs) (o := row (.int .i64 2 :: sl m1 zw.1 :: sl m2 zw.2 :: exs) 72) ?_
      refine Pw.eqL (L' := [⟨gm, mapO []⟩, ⟨gl, row (.slice none 0 0 :: exl) 37⟩, ⟨gr, row [.slice (some av) 1 cz, sl [2] (some ac, cc), .map (some ga), sl [5] zn, .slice (some ⟨gl, 0, none⟩) 1 capl, .slice (some ⟨ge, 0, none⟩) 1 cape, .slice none 0 0] 120⟩, ⟨ga, mapO [(2, .slice (some ⟨gp, 0, none⟩) 1 capp)]⟩]) rfl ?_
      refine Pw.re (d := 94) (v' := .slice (some ⟨gs, 0, none⟩) 1 caps) rfl rfl ?_
      refine Pw.held sf ?_
      refine Pw.takeP 10 (nb 13 2047) rfl rfl rfl rfl (by kernel_rfl) np sf ?_
      refine Pw.takeP 11 (nb 13 4095) rfl rfl rfl rfl (by kernel_rfl) np sf ?_
      refine Pw.one 12 (nb 13 8191) rfl (by kernel_rfl) ?_
      refine Pw.sto rfl rfl inferInstance rfl rfl rfl rfl rfl inferInstance rfl ?_
      refine Pw.held sf ?_
      refine Pw.done (by kernel_rfl) ?_
      exact Pw.then_ (Pw.arrive (gs, caps) trivial ⟨rfl, rfl, rfl, rfl, trivial⟩ rfl (fun w h => allCons (by rw [cell_of_blk (fact0 h)]; rfl) (allCons (Blks.h (L := []) (g := ge) w (fun b hb => by cases hb) h) (allCons (hv w h) (allCons (hv w h) (allCons (hv w h) (allCons (hv w h) (allCons (hv w h) allNil))))))))
  rintro ⟨gs, caps⟩ _
  dsimp only
  refine Pw.perm (List.perm_middle (l₁ := [_, _])) (freeHead ?_)
  refine Pw.eqL (L' := [⟨gm, mapO []⟩, ⟨gl, row (.slice none 0 0 :: exl) 37⟩, ⟨ga, mapO [(2, .slice (some ⟨gp, 0, none⟩) 1 capp)]⟩]) rfl ?_
  repeat (first | (with_reducible first | refine Pw.seq ?_ | refine Pw.region ?_ | refine Pw.nil ?_ | refine Pw.then_ ?_ | refine Pw.skip ?_ | refine Pw.block ?_ | refine Pw.exit ?_ | refine Pw.inX ?_ | refine Pw.inN ?_ | refine Pw.inR ?_ | refine Pw.thenX ?_ | refine Pw.thenR ?_ | refine Pw.ret ?_) | refine Pw.list (Pw.pure rfl rfl rfl ?_) | refine Pw.inY rfl ?_ | refine Pw.list (Pw.off rfl rfl ?_) | refine Pw.condT rfl ?_ | refine Pw.condF rfl ?_ | refine Pw.list (Pw.box rfl rfl rfl rfl (fun _ => ?_)) | refine Pw.list (Pw.alloc rfl rfl rfl rfl rfl (fun _ => ?_)) | refine Pw.list (Pw.build rfl rfl rfl rfl ?_) | refine Pw.list (Pw.ld rfl inferInstance rfl rfl rfl ?_) | refine Pw.list (Pw.sto rfl rfl inferInstance rfl rfl rfl rfl rfl inferInstance rfl ?_))
  refine Pw.rounds 3 (Pw.round ?_)
  repeat (first | (with_reducible first | refine Pw.seq ?_ | refine Pw.region ?_ | refine Pw.nil ?_ | refine Pw.then_ ?_ | refine Pw.skip ?_ | refine Pw.block ?_ | refine Pw.exit ?_ | refine Pw.inX ?_ | refine Pw.inN ?_ | refine Pw.inR ?_ | refine Pw.thenX ?_ | refine Pw.thenR ?_ | refine Pw.ret ?_) | refine Pw.list (Pw.pure rfl rfl rfl ?_) | refine Pw.inY rfl ?_ | refine Pw.list (Pw.off rfl rfl ?_) | refine Pw.condT rfl ?_ | refine Pw.condF rfl ?_ | refine Pw.list (Pw.box rfl rfl rfl rfl (fun _ => ?_)) | refine Pw.list (Pw.alloc rfl rfl rfl rfl rfl (fun _ => ?_)) | refine Pw.list (Pw.build rfl rfl rfl rfl ?_) | refine Pw.list (Pw.ld rfl inferInstance rfl rfl rfl ?_) | refine Pw.list (Pw.sto rfl rfl inferInstance rfl rfl rfl rfl rfl inferInstance rfl ?_))
  refine Pw.drawnG mixed rfl rfl ?_
  refine Pw.takeP 0 (nb 16 1) rfl rfl rfl rfl (by kernel_rfl) np sf ?_
  refine Pw.takeP 1 (nb 16 3) rfl rfl rfl rfl (by kernel_rfl) np sf ?_
  refine Pw.takeP 2 (nb 16 7) rfl rfl rfl rfl (by kernel_rfl) np sf ?_
  refine Pw.takeF 3 (nb 16 15) rfl rfl inferInstance rfl rfl rfl (by kernel_rfl) np sf ?_
  refine Pw.takeP 4 (nb 16 31) rfl rfl rfl rfl (by kernel_rfl) np sf ?_
  refine Pw.takeP 5 (nb 16 63) rfl rfl rfl rfl (by kernel_rfl) np sf ?_
  refine Pw.takeP 6 (nb 16 127) rfl rfl rfl rfl (by kernel_rfl) np sf ?_
  refine Pw.takeP 7 (nb 16 255) rfl rfl rfl rfl (by kernel_rfl) np sf ?_
  refine Pw.takeF 8 (nb 16 511) rfl rfl inferInstance rfl rfl rfl (by kernel_rfl) np sf ?_
  refine Pw.takeP 9 (nb 16 1023) rfl rfl rfl rfl (by kernel_rfl) np sf ?_
  refine Pw.takeIx 10 (nb 16 2047) rfl rfl rfl rfl rfl (by first | assumption | omega) (by first | assumption | omega) rfl rfl (by kernel_rfl) np sf ?_
  refine Pw.takeP 12 (nb 16 6143) rfl rfl rfl rfl (by kernel_rfl) np sf ?_
  refine Pw.one 11 (nb 16 8191) rfl (by kernel_rfl) ?_
  refine Pw.ld rfl inferInstance rfl rfl rfl ?_
  refine Pw.held sf ?_
  refine Pw.one 13 (nb 16 16383) rfl (by kernel_rfl) ?_
  refine Pw.call (times_ct [] (none, 0) 5 (fun x hx => by cases hx) (by simp)) rfl rfl rfl (by kernel_rfl) rfl rfl (fun w h => Rows.nil _ _ _ _ _) ?_
  intro zt _
  rw [t05]
  refine Pw.re (d := 118) (v' := .slice zt.1 0 zt.2) rfl rfl ?_
  refine Pw.held sf ?_
  refine Pw.takeIx 14 (nb 16 32767) rfl rfl rfl rfl rfl (by first | assumption | omega) (by first | assumption | omega) rfl rfl (by kernel_rfl) np sf ?_
  refine Pw.one 15 (nb 16 65535) rfl (by kernel_rfl) ?_
  refine Pw.sto (vs := [.slice zt.1 0 zt.2]) rfl rfl inferInstance rfl rfl rfl rfl (putN_here (old := [.slice none 0 0]) (post := exl) rfl) inferInstance rfl ?_
  refine Pw.held sf ?_
  refine Pw.done (by kernel_rfl) ?_
  skip
  repeat (first | (with_reducible first | refine Pw.seq ?_ | refine Pw.region ?_ | refine Pw.nil ?_ | refine Pw.then_ ?_ | refine Pw.skip ?_ | refine Pw.block ?_ | refine Pw.exit ?_ | refine Pw.inX ?_ | refine Pw.inN ?_ | refine Pw.inR ?_ | refine Pw.thenX ?_ | refine Pw.thenR ?_ | refine Pw.ret ?_) | refine Pw.list (Pw.pure rfl rfl rfl ?_) | refine Pw.inY rfl ?_ | refine Pw.list (Pw.off rfl rfl ?_) | refine Pw.condT rfl ?_ | refine Pw.condF rfl ?_ | refine Pw.list (Pw.box rfl rfl rfl rfl (fun _ => ?_)) | refine Pw.list (Pw.alloc rfl rfl rfl rfl rfl (fun _ => ?_)) | refine Pw.list (Pw.build rfl rfl rfl rfl ?_) | refine Pw.list (Pw.ld rfl inferInstance rfl rfl rfl ?_) | refine Pw.list (Pw.sto rfl rfl inferInstance rfl rfl rfl rfl rfl inferInstance rfl ?_))
  refine Pw.re (d := 102) (v' := .int .i64 1) rfl (by kernel_rfl) ?_
  refine Pw.round ?_
  repeat (first | (with_reducible first | refine Pw.seq ?_ | refine Pw.region ?_ | refine Pw.nil ?_ | refine Pw.then_ ?_ | refine Pw.skip ?_ | refine Pw.block ?_ | refine Pw.exit ?_ | refine Pw.inX ?_ | refine Pw.inN ?_ | refine Pw.inR ?_ | refine Pw.thenX ?_ | refine Pw.thenR ?_ | refine Pw.ret ?_) | refine Pw.list (Pw.pure rfl rfl rfl ?_) | refine Pw.inY rfl ?_ | refine Pw.list (Pw.off rfl rfl ?_) | refine Pw.condT rfl ?_ | refine Pw.condF rfl ?_ | refine Pw.list (Pw.box rfl rfl rfl rfl (fun _ => ?_)) | refine Pw.list (Pw.alloc rfl rfl rfl rfl rfl (fun _ => ?_)) | refine Pw.list (Pw.build rfl rfl rfl rfl ?_) | refine Pw.list (Pw.ld rfl inferInstance rfl rfl rfl ?_) | refine Pw.list (Pw.sto rfl rfl inferInstance rfl rfl rfl rfl rfl inferInstance rfl ?_))
  refine Pw.list (Pw.lookupF (m := [(2, .slice (some ⟨gp, 0, none⟩) 1 capp)]) rfl rfl rfl rfl rfl rfl (fun w hs => hs.own ⟨ga, _⟩ (.tail _ (.tail _ (.head _)))) rfl rfl ?_)
  refine Pw.re (d := 126) (v' := .slice (some ⟨gp, 0, none⟩) 1 capp) rfl rfl ?_
  repeat (first | (with_reducible first | refine Pw.seq ?_ | refine Pw.region ?_ | refine Pw.nil ?_ | refine Pw.then_ ?_ | refine Pw.skip ?_ | refine Pw.block ?_ | refine Pw.exit ?_ | refine Pw.inX ?_ | refine Pw.inN ?_ | refine Pw.inR ?_ | refine Pw.thenX ?_ | refine Pw.thenR ?_ | refine Pw.ret ?_) | refine Pw.list (Pw.pure rfl rfl rfl ?_) | refine Pw.inY rfl ?_ | refine Pw.list (Pw.off rfl rfl ?_) | refine Pw.condT rfl ?_ | refine Pw.condF rfl ?_ | refine Pw.list (Pw.box rfl rfl rfl rfl (fun _ => ?_)) | refine Pw.list (Pw.alloc rfl rfl rfl rfl rfl (fun _ => ?_)) | refine Pw.list (Pw.build rfl rfl rfl rfl ?_) | refine Pw.list (Pw.ld rfl inferInstance rfl rfl rfl ?_) | refine Pw.list (Pw.sto rfl rfl inferInstance rfl rfl rfl rfl rfl inferInstance rfl ?_))
  refine Pw.rounds 3 (Pw.round ?_)
  repeat (first | (with_reducible first | refine Pw.seq ?_ | refine Pw.region ?_ | refine Pw.nil ?_ | refine Pw.then_ ?_ | refine Pw.skip ?_ | refine Pw.block ?_ | refine Pw.exit ?_ | refine Pw.inX ?_ | refine Pw.inN ?_ | refine Pw.inR ?_ | refine Pw.thenX ?_ | refine Pw.thenR ?_ | refine Pw.ret ?_) | refine Pw.list (Pw.pure rfl rfl rfl ?_) | refine Pw.inY rfl ?_ | refine Pw.list (Pw.off rfl rfl ?_) | refine Pw.condT rfl ?_ | refine Pw.condF rfl ?_ | refine Pw.list (Pw.box rfl rfl rfl rfl (fun _ => ?_)) | refine Pw.list (Pw.alloc rfl rfl rfl rfl rfl (fun _ => ?_)) | refine Pw.list (Pw.build rfl rfl rfl rfl ?_) | refine Pw.list (Pw.ld rfl inferInstance rfl rfl rfl ?_) | refine Pw.list (Pw.sto rfl rfl inferInstance rfl rfl rfl rfl rfl inferInstance rfl ?_))
  refine Pw.list (Pw.indexS rfl rfl rfl rfl (Int.le_refl 0) (by show (0 : Int) < 1; omega) rfl rfl ?_)
  refine Pw.list (Pw.load1 rfl rfl (fun w hs => (hv w hs.all : I1 [0] (some ⟨gp, 0, none⟩, capp) w).cell (i := 0) (Int.le_refl 0) (by show (0 : Int) < 1; omega)) rfl rfl ?_)
  refine Pw.re (d := 131) (v' := .int .i64 0) rfl rfl ?_
  repeat (first | (with_reducible first | refine Pw.seq ?_ | refine Pw.region ?_ | refine Pw.nil ?_ | refine Pw.then_ ?_ | refine Pw.skip ?_ | refine Pw.block ?_ | refine Pw.exit ?_ | refine Pw.inX ?_ | refine Pw.inN ?_ | refine Pw.inR ?_ | refine Pw.thenX ?_ | refine Pw.thenR ?_ | refine Pw.ret ?_) | refine Pw.list (Pw.pure rfl rfl rfl ?_) | refine Pw.inY rfl ?_ | refine Pw.list (Pw.off rfl rfl ?_) | refine Pw.condT rfl ?_ | refine Pw.condF rfl ?_ | refine Pw.list (Pw.box rfl rfl rfl rfl (fun _ => ?_)) | refine Pw.list (Pw.alloc rfl rfl rfl rfl rfl (fun _ => ?_)) | refine Pw.list (Pw.build rfl rfl rfl rfl ?_) | refine Pw.list (Pw.ld rfl inferInstance rfl rfl rfl ?_) | refine Pw.list (Pw.sto rfl rfl inferInstance rfl rfl rfl rfl rfl inferInstance rfl ?_))
  refine Pw.list (Pw.indexS rfl rfl rfl rfl (Int.le_refl 0) (by show (0 : Int) < 1; omega) rfl rfl ?_)
  repeat (first | (with_reducible first | refine Pw.seq ?_ | refine Pw.region ?_ | refine Pw.nil ?_ | refine Pw.then_ ?_ | refine Pw.skip ?_ | refine Pw.block ?_ | refine Pw.exit ?_ | refine Pw.inX ?_ | refine Pw.inN ?_ | refine Pw.inR ?_ | refine Pw.thenX ?_ | refine Pw.thenR ?_ | refine Pw.ret ?_) | refine Pw.list (Pw.pure rfl rfl rfl ?_) | refine Pw.inY rfl ?_ | refine Pw.list (Pw.off rfl rfl ?_) | refine Pw.condT rfl ?_ | refine Pw.condF rfl ?_ | refine Pw.list (Pw.box rfl rfl rfl rfl (fun _ => ?_)) | refine Pw.list (Pw.alloc rfl rfl rfl rfl rfl (fun _ => ?_)) | refine Pw.list (Pw.build rfl rfl rfl rfl ?_) | refine Pw.list (Pw.ld rfl inferInstance rfl rfl rfl ?_) | refine Pw.list (Pw.sto rfl rfl inferInstance rfl rfl rfl rfl rfl inferInstance rfl ?_))
  refine Pw.list (Pw.call (Sub_ct [1] [] zs zt lm1 lm0 (by simp) (by simp)) rfl rfl rfl (by kernel_rfl) rfl rfl (fun w h => ⟨(hv w h), (hv w h)⟩) ?_)
  intro zl _
  rw [s10]
  repeat (first | (with_reducible first | refine Pw.seq ?_ | refine Pw.region ?_ | refine Pw.nil ?_ | refine Pw.then_ ?_ | refine Pw.skip ?_ | refine Pw.block ?_ | refine Pw.exit ?_ | refine Pw.inX ?_ | refine Pw.inN ?_ | refine Pw.inR ?_ | refine Pw.thenX ?_ | refine Pw.thenR ?_ | refine Pw.ret ?_) | refine Pw.list (Pw.pure rfl rfl rfl ?_) | refine Pw.inY rfl ?_ | refine Pw.list (Pw.off rfl rfl ?_) | refine Pw.condT rfl ?_ | refine Pw.condF rfl ?_ | refine Pw.list (Pw.box rfl rfl rfl rfl (fun _ => ?_)) | refine Pw.list (Pw.alloc rfl rfl rfl rfl rfl (fun _ => ?_)) | refine Pw.list (Pw.build rfl rfl rfl rfl ?_) | refine Pw.list (Pw.ld rfl inferInstance rfl rfl rfl ?_) | refine Pw.list (Pw.sto rfl rfl inferInstance rfl rfl rfl rfl rfl inferInstance rfl ?_))
  refine Pw.drawnG mixed rfl rfl ?_
  refine Pw.takeP 0 (nb 15 1) rfl rfl rfl rfl (by kernel_rfl) np sf ?_
  refine Pw.takeP 1 (nb 15 3) rfl rfl rfl rfl (by kernel_rfl) np sf ?_
  refine Pw.takeP 2 (nb 15 7) rfl rfl rfl rfl (by kernel_rfl) np sf ?_
  refine Pw.takeF 3 (nb 15 15) rfl rfl inferInstance rfl rfl rfl (by kernel_rfl) np sf ?_
  refine Pw.takeP 4 (nb 15 31) rfl rfl rfl rfl (by kernel_rfl) np sf ?_
  refine Pw.takeIx 5 (nb 15 63) rfl rfl rfl rfl rfl (by first | assumption | omega) (by first | assumption | omega) rfl rfl (by kernel_rfl) np sf ?_
  refine Pw.takeF 6 (nb 15 127) rfl rfl inferInstance rfl rfl rfl (by kernel_rfl) np sf ?_
  refine Pw.takeP 7 (nb 15 255) rfl rfl rfl rfl (by kernel_rfl) np sf ?_
  refine Pw.takeP 8 (nb 15 511) rfl rfl rfl rfl (by kernel_rfl) np sf ?_
  refine Pw.takeP 9 (nb 15 1023) rfl rfl rfl rfl (by kernel_rfl) np sf ?_
  refine Pw.takeP 10 (nb 15 2047) rfl rfl rfl rfl (by kernel_rfl) np sf ?_
  refine Pw.takeP 11 (nb 15 4095) rfl rfl rfl rfl (by kernel_rfl) np sf ?_
  refine Pw.takeF 12 (nb 15 8191) rfl rfl inferInstance rfl rfl rfl (by kernel_rfl) np sf ?_
  refine Pw.takeBuild 13 (nb 15 16383) rfl rfl rfl rfl rfl (by kernel_rfl) np sf ?_
  refine Pw.one 14 (nb 15 32767) rfl (by kernel_rfl) ?_
  refine Pw.re (d := 157) (v' := .agg #[sl [1] zl, sl [5] zn]) rfl rfl ?_
  refine Pw.mapNew (m := []) (k := 2) rfl rfl rfl rfl rfl (fun p hp => by cases hp) .head rfl ?_
  refine Pw.held sf ?_
  refine Pw.done (by kernel_rfl) ?_
  skip
  repeat (first | (with_reducible first | refine Pw.seq ?_ | refine Pw.region ?_ | refine Pw.nil ?_ | refine Pw.then_ ?_ | refine Pw.skip ?_ | refine Pw.block ?_ | refine Pw.exit ?_ | refine Pw.inX ?_ | refine Pw.inN ?_ | refine Pw.inR ?_ | refine Pw.thenX ?_ | refine Pw.thenR ?_ | refine Pw.ret ?_) | refine Pw.list (Pw.pure rfl rfl rfl ?_) | refine Pw.inY rfl ?_ | refine Pw.list (Pw.off rfl rfl ?_) | refine Pw.condT rfl ?_ | refine Pw.condF rfl ?_ | refine Pw.list (Pw.box rfl rfl rfl rfl (fun _ => ?_)) | refine Pw.list (Pw.alloc rfl rfl rfl rfl rfl (fun _ => ?_)) | refine Pw.list (Pw.build rfl rfl rfl rfl ?_) | refine Pw.list (Pw.ld rfl inferInstance rfl rfl rfl ?_) | refine Pw.list (Pw.sto rfl rfl inferInstance rfl rfl rfl rfl rfl inferInstance rfl ?_))
  refine Pw.list (Pw.indexS rfl rfl rfl rfl (Int.le_refl 0) (by show (0 : Int) < 1; omega) rfl rfl ?_)
  refine Pw.list (Pw.sto (vs := [.slice zs.1 1 zs.2]) rfl rfl inferInstance rfl rfl rfl rfl (putN_here (old := [.slice zt.1 0 zt.2]) (post := exl) rfl) inferInstance rfl ?_)
  repeat (first | (with_reducible first | refine Pw.seq ?_ | refine Pw.region ?_ | refine Pw.nil ?_ | refine Pw.then_ ?_ | refine Pw.skip ?_ | refine Pw.block ?_ | refine Pw.exit ?_ | refine Pw.inX ?_ | refine Pw.inN ?_ | refine Pw.inR ?_ | refine Pw.thenX ?_ | refine Pw.thenR ?_ | refine Pw.ret ?_) | refine Pw.list (Pw.pure rfl rfl rfl ?_) | refine Pw.inY rfl ?_ | refine Pw.list (Pw.off rfl rfl ?_) | refine Pw.condT rfl ?_ | refine Pw.condF rfl ?_ | refine Pw.list (Pw.box rfl rfl rfl rfl (fun _ => ?_)) | refine Pw.list (Pw.alloc rfl rfl rfl rfl rfl (fun _ => ?_)) | refine Pw.list (Pw.build rfl rfl rfl rfl ?_) | refine Pw.list (Pw.ld rfl inferInstance rfl rfl rfl ?_) | refine Pw.list (Pw.sto rfl rfl inferInstance rfl rfl rfl rfl rfl inferInstance rfl ?_))
  refine Pw.re (d := 128) (v' := .int .i64 1) rfl (by kernel_rfl) ?_
  refine Pw.round ?_
  repeat (first | (with_reducible first | refine Pw.seq ?_ | refine Pw.region ?_ | refine Pw.nil ?_ | refine Pw.then_ ?_ | refine Pw.skip ?_ | refine Pw.block ?_ | refine Pw.exit ?_ | refine Pw.inX ?_ | refine Pw.inN ?_ | refine Pw.inR ?_ | refine Pw.thenX ?_ | refine Pw.thenR ?_ | refine Pw.ret ?_) | refine Pw.list (Pw.pure rfl rfl rfl ?_) | refine Pw.inY rfl ?_ | refine Pw.list (Pw.off rfl rfl ?_) | refine Pw.condT rfl ?_ | refine Pw.condF rfl ?_ | refine Pw.list (Pw.box rfl rfl rfl rfl (fun _ => ?_)) | refine Pw.list (Pw.alloc rfl rfl rfl rfl rfl (fun _ => ?_)) | refine Pw.list (Pw.build rfl rfl rfl rfl ?_) | refine Pw.list (Pw.ld rfl inferInstance rfl rfl rfl ?_) | refine Pw.list (Pw.sto rfl rfl inferInstance rfl rfl rfl rfl rfl inferInstance rfl ?_))
  refine Pw.back hR (.tmp rfl .nil) rfl ?_
  clear hR
  refine Pw.eqL (L' := [⟨gm, mapO [(2, .agg #[sl [1] zl, sl [5] zn])]⟩, ⟨gl, row (.slice zs.1 1 zs.2 :: exl) 37⟩, ⟨ga, mapO [(2, .slice (some ⟨gp, 0, none⟩) 1 capp)]⟩]) rfl (freeHead (freeHead ?_))
  repeat (first | (with_reducible first | refine Pw.seq ?_ | refine Pw.region ?_ | refine Pw.nil ?_ | refine Pw.then_ ?_ | refine Pw.skip ?_ | refine Pw.block ?_ | refine Pw.exit ?_ | refine Pw.inX ?_ | refine Pw.inN ?_ | refine Pw.inR ?_ | refine Pw.thenX ?_ | refine Pw.thenR ?_ | refine Pw.ret ?_) | refine Pw.list (Pw.pure rfl rfl rfl ?_) | refine Pw.inY rfl ?_ | refine Pw.list (Pw.off rfl rfl ?_) | refine Pw.condT rfl ?_ | refine Pw.condF rfl ?_ | refine Pw.list (Pw.box rfl rfl rfl rfl (fun _ => ?_)) | refine Pw.list (Pw.alloc rfl rfl rfl rfl rfl (fun _ => ?_)) | refine Pw.list (Pw.build rfl rfl rfl rfl ?_) | refine Pw.list (Pw.ld rfl inferInstance rfl rfl rfl ?_) | refine Pw.list (Pw.sto rfl rfl inferInstance rfl rfl rfl rfl rfl inferInstance rfl ?_))
  refine Pw.round ?_
  repeat (first | (with_reducible first | refine Pw.seq ?_ | refine Pw.region ?_ | refine Pw.nil ?_ | refine Pw.then_ ?_ | refine Pw.skip ?_ | refine Pw.block ?_ | refine Pw.exit ?_ | refine Pw.inX ?_ | refine Pw.inN ?_ | refine Pw.inR ?_ | refine Pw.thenX ?_ | refine Pw.thenR ?_ | refine Pw.ret ?_) | refine Pw.list (Pw.pure rfl rfl rfl ?_) | refine Pw.inY rfl ?_ | refine Pw.list (Pw.off rfl rfl ?_) | refine Pw.condT rfl ?_ | refine Pw.condF rfl ?_ | refine Pw.list (Pw.box rfl rfl rfl rfl (fun _ => ?_)) | refine Pw.list (Pw.alloc rfl rfl rfl rfl rfl (fun _ => ?_)) | refine Pw.list (Pw.build rfl rfl rfl rfl ?_) | refine Pw.list (Pw.ld rfl inferInstance rfl rfl rfl ?_) | refine Pw.list (Pw.sto rfl rfl inferInstance rfl rfl rfl rfl rfl inferInstance rfl ?_))
  refine Pw.drawnG mixed rfl rfl ?_
  refine Pw.takeP 0 (nb 9 1) rfl rfl rfl rfl (by kernel_rfl) np sf ?_
  refine Pw.takeP 1 (nb 9 3) rfl rfl rfl rfl (by kernel_rfl) np sf ?_
  refine Pw.takeP 2 (nb 9 7) rfl rfl rfl rfl (by kernel_rfl) np sf ?_
  refine Pw.takeF 3 (nb 9 15) rfl rfl inferInstance rfl rfl rfl (by kernel_rfl) np sf ?_
  refine Pw.takeP 4 (nb 9 31) rfl rfl rfl rfl (by kernel_rfl) np sf ?_
  refine Pw.one 5 (nb 9 63) rfl (by kernel_rfl) ?_
  -- call Op.call { callee := Callee.value (Operand.func 60), args := #[Operand.tmp 36], argTypes := #[115] }
  refine Pw.inline (K' := [(0, .pointer (some ⟨gr, 0, none⟩))]) Try.func60 rfl rfl rfl rfl (by kernel_rfl) rfl rfl rfl (slots_of rfl slots1) (fun R hR => ?_)
  repeat (first | (with_reducible first | refine Pw.seq ?_ | refine Pw.region ?_ | refine Pw.nil ?_ | refine Pw.then_ ?_ | refine Pw.skip ?_ | refine Pw.block ?_ | refine Pw.exit ?_ | refine Pw.inX ?_ | refine Pw.inN ?_ | refine Pw.inR ?_ | refine Pw.thenX ?_ | refine Pw.thenR ?_ | refine Pw.ret ?_) | refine Pw.list (Pw.pure rfl rfl rfl ?_) | refine Pw.inY rfl ?_ | refine Pw.list (Pw.off rfl rfl ?_) | refine Pw.condT rfl ?_ | refine Pw.condF rfl ?_ | refine Pw.list (Pw.box rfl rfl rfl rfl (fun _ => ?_)) | refine Pw.list (Pw.alloc rfl rfl rfl rfl rfl (fun _ => ?_)) | refine Pw.list (Pw.build rfl rfl rfl rfl ?_) | refine Pw.list (Pw.ld rfl inferInstance rfl rfl rfl ?_) | refine Pw.list (Pw.sto rfl rfl inferInstance rfl rfl rfl rfl rfl inferInstance rfl ?_))
  refine Pw.rounds 3 (Pw.round ?_)
  repeat (first | (with_reducible first | refine Pw.seq ?_ | refine Pw.region ?_ | refine Pw.nil ?_ | refine Pw.then_ ?_ | refine Pw.skip ?_ | refine Pw.block ?_ | refine Pw.exit ?_ | refine Pw.inX ?_ | refine Pw.inN ?_ | refine Pw.inR ?_ | refine Pw.thenX ?_ | refine Pw.thenR ?_ | refine Pw.ret ?_) | refine Pw.list (Pw.pure rfl rfl rfl ?_) | refine Pw.inY rfl ?_ | refine Pw.list (Pw.off rfl rfl ?_) | refine Pw.condT rfl ?_ | refine Pw.condF rfl ?_ | refine Pw.list (Pw.box rfl rfl rfl rfl (fun _ => ?_)) | refine Pw.list (Pw.alloc rfl rfl rfl rfl rfl (fun _ => ?_)) | refine Pw.list (Pw.build rfl rfl rfl rfl ?_) | refine Pw.list (Pw.ld rfl inferInstance rfl rfl rfl ?_) | refine Pw.list (Pw.sto rfl rfl inferInstance rfl rfl rfl rfl rfl inferInstance rfl ?_))
  refine Pw.list (Pw.indexS rfl rfl rfl rfl (Int.le_refl 0) (by show (0 : Int) < 1; omega) rfl rfl ?_)
  refine Pw.list (Pw.loadR (⟨1, 5, [2], (some ap, cp)⟩ : Vtr) rfl inferInstance rfl rfl (by kernel_rfl) rfl rfl ?_)
  refine Pw.re (d := 26) (v' := vtV ⟨1, 5, [2], (some ap, cp)⟩) rfl rfl ?_
  repeat (first | (with_reducible first | refine Pw.seq ?_ | refine Pw.region ?_ | refine Pw.nil ?_ | refine Pw.then_ ?_ | refine Pw.skip ?_ | refine Pw.block ?_ | refine Pw.exit ?_ | refine Pw.inX ?_ | refine Pw.inN ?_ | refine Pw.inR ?_ | refine Pw.thenX ?_ | refine Pw.thenR ?_ | refine Pw.ret ?_) | refine Pw.list (Pw.pure rfl rfl rfl ?_) | refine Pw.inY rfl ?_ | refine Pw.list (Pw.off rfl rfl ?_) | refine Pw.condT rfl ?_ | refine Pw.condF rfl ?_ | refine Pw.list (Pw.box rfl rfl rfl rfl (fun _ => ?_)) | refine Pw.list (Pw.alloc rfl rfl rfl rfl rfl (fun _ => ?_)) | refine Pw.list (Pw.build rfl rfl rfl rfl ?_) | refine Pw.list (Pw.ld rfl inferInstance rfl rfl rfl ?_) | refine Pw.list (Pw.sto rfl rfl inferInstance rfl rfl rfl rfl rfl inferInstance rfl ?_))
  refine freeHead ?_
  repeat (first | (with_reducible first | refine Pw.seq ?_ | refine Pw.region ?_ | refine Pw.nil ?_ | refine Pw.then_ ?_ | refine Pw.skip ?_ | refine Pw.block ?_ | refine Pw.exit ?_ | refine Pw.inX ?_ | refine Pw.inN ?_ | refine Pw.inR ?_ | refine Pw.thenX ?_ | refine Pw.thenR ?_ | refine Pw.ret ?_) | refine Pw.list (Pw.pure rfl rfl rfl ?_) | refine Pw.inY rfl ?_ | refine Pw.list (Pw.off rfl rfl ?_) | refine Pw.condT rfl ?_ | refine Pw.condF rfl ?_ | refine Pw.list (Pw.box rfl rfl rfl rfl (fun _ => ?_)) | refine Pw.list (Pw.alloc rfl rfl rfl rfl rfl (fun _ => ?_)) | refine Pw.list (Pw.build rfl rfl rfl rfl ?_) | refine Pw.list (Pw.ld rfl inferInstance rfl rfl rfl ?_) | refine Pw.list (Pw.sto rfl rfl inferInstance rfl rfl rfl rfl rfl inferInstance rfl ?_))
  refine Pw.rounds 3 (Pw.round ?_)
  repeat (first | (with_reducible first | refine Pw.seq ?_ | refine Pw.region ?_ | refine Pw.nil ?_ | refine Pw.then_ ?_ | refine Pw.skip ?_ | refine Pw.block ?_ | refine Pw.exit ?_ | refine Pw.inX ?_ | refine Pw.inN ?_ | refine Pw.inR ?_ | refine Pw.thenX ?_ | refine Pw.thenR ?_ | refine Pw.ret ?_) | refine Pw.list (Pw.pure rfl rfl rfl ?_) | refine Pw.inY rfl ?_ | refine Pw.list (Pw.off rfl rfl ?_) | refine Pw.condT rfl ?_ | refine Pw.condF rfl ?_ | refine Pw.list (Pw.box rfl rfl rfl rfl (fun _ => ?_)) | refine Pw.list (Pw.alloc rfl rfl rfl rfl rfl (fun _ => ?_)) | refine Pw.list (Pw.build rfl rfl rfl rfl ?_) | refine Pw.list (Pw.ld rfl inferInstance rfl rfl rfl ?_) | refine Pw.list (Pw.sto rfl rfl inferInstance rfl rfl rfl rfl rfl inferInstance rfl ?_))
  refine Pw.list (Pw.indexS rfl rfl rfl rfl (Int.le_refl 0) (by show (0 : Int) < 1; omega) rfl rfl ?_)
  refine Pw.list (Pw.load1 rfl rfl (fun w hs => (hv w hs.all : I1 [2] (some ac, cc) w).cell (i := 0) (Int.le_refl 0) (by show (0 : Int) < 1; omega)) rfl rfl ?_)
  refine Pw.re (d := 36) (v' := .int .i64 2) rfl rfl ?_
  repeat (first | (with_reducible first | refine Pw.seq ?_ | refine Pw.region ?_ | refine Pw.nil ?_ | refine Pw.then_ ?_ | refine Pw.skip ?_ | refine Pw.block ?_ | refine Pw.exit ?_ | refine Pw.inX ?_ | refine Pw.inN ?_ | refine Pw.inR ?_ | refine Pw.thenX ?_ | refine Pw.thenR ?_ | refine Pw.ret ?_) | refine Pw.list (Pw.pure rfl rfl rfl ?_) | refine Pw.inY rfl ?_ | refine Pw.list (Pw.off rfl rfl ?_) | refine Pw.condT rfl ?_ | refine Pw.condF rfl ?_ | refine Pw.list (Pw.box rfl rfl rfl rfl (fun _ => ?_)) | refine Pw.list (Pw.alloc rfl rfl rfl rfl rfl (fun _ => ?_)) | refine Pw.list (Pw.build rfl rfl rfl rfl ?_) | refine Pw.list (Pw.ld rfl inferInstance rfl rfl rfl ?_) | refine Pw.list (Pw.sto rfl rfl inferInstance rfl rfl rfl rfl rfl inferInstance rfl ?_))
  refine Pw.list (Pw.indexS rfl rfl rfl rfl (Int.le_refl 0) (by show (0 : Int) < 1; omega) rfl rfl ?_)
  repeat (first | (with_reducible first | refine Pw.seq ?_ | refine Pw.region ?_ | refine Pw.nil ?_ | refine Pw.then_ ?_ | refine Pw.skip ?_ | refine Pw.block ?_ | refine Pw.exit ?_ | refine Pw.inX ?_ | refine Pw.inN ?_ | refine Pw.inR ?_ | refine Pw.thenX ?_ | refine Pw.thenR ?_ | refine Pw.ret ?_) | refine Pw.list (Pw.pure rfl rfl rfl ?_) | refine Pw.inY rfl ?_ | refine Pw.list (Pw.off rfl rfl ?_) | refine Pw.condT rfl ?_ | refine Pw.condF rfl ?_ | refine Pw.list (Pw.box rfl rfl rfl rfl (fun _ => ?_)) | refine Pw.list (Pw.alloc rfl rfl rfl rfl rfl (fun _ => ?_)) | refine Pw.list (Pw.build rfl rfl rfl rfl ?_) | refine Pw.list (Pw.ld rfl inferInstance rfl rfl rfl ?_) | refine Pw.list (Pw.sto rfl rfl inferInstance rfl rfl rfl rfl rfl inferInstance rfl ?_))
  refine Pw.list (Pw.lookupOk (m := [(2, .agg #[sl [1] zl, sl [5] zn])]) rfl rfl rfl rfl rfl rfl (fun w hs => by have h := hs.all; exact (by first | exact fact0 (h) | exact fact0 (allTail (h)) | exact fact0 (allTail (allTail (h))) | exact fact0 (allTail (allTail (allTail (h)))) | exact fact0 (allTail (allTail (allTail (allTail (h))))) | exact fact0 (allTail (allTail (allTail (allTail (allTail (h)))))) | exact fact0 (allTail (allTail (allTail (allTail (allTail (allTail (h))))))) | exact fact0 (allTail (allTail (allTail (allTail (allTail (allTail (allTail (h)))))))) | exact fact0 (allTail (allTail (allTail (allTail (allTail (allTail (allTail (allTail (h))))))))) | exact fact0 (allTail (allTail (allTail (allTail (allTail (allTail (allTail (allTail (allTail (h)))))))))))) rfl rfl ?_)
  refine Pw.re (d := 46) (v' := .tuple #[.agg #[sl [1] zl, sl [5] zn], .bool true]) rfl rfl ?_
  repeat (first | (with_reducible first | refine Pw.seq ?_ | refine Pw.region ?_ | refine Pw.nil ?_ | refine Pw.then_ ?_ | refine Pw.skip ?_ | refine Pw.block ?_ | refine Pw.exit ?_ | refine Pw.inX ?_ | refine Pw.inN ?_ | refine Pw.inR ?_ | refine Pw.thenX ?_ | refine Pw.thenR ?_ | refine Pw.ret ?_) | refine Pw.list (Pw.pure rfl rfl rfl ?_) | refine Pw.inY rfl ?_ | refine Pw.list (Pw.off rfl rfl ?_) | refine Pw.condT rfl ?_ | refine Pw.condF rfl ?_ | refine Pw.list (Pw.box rfl rfl rfl rfl (fun _ => ?_)) | refine Pw.list (Pw.alloc rfl rfl rfl rfl rfl (fun _ => ?_)) | refine Pw.list (Pw.build rfl rfl rfl rfl ?_) | refine Pw.list (Pw.ld rfl inferInstance rfl rfl rfl ?_) | refine Pw.list (Pw.sto rfl rfl inferInstance rfl rfl rfl rfl rfl inferInstance rfl ?_))
  refine freeHead ?_
  repeat (first | (with_reducible first | refine Pw.seq ?_ | refine Pw.region ?_ | refine Pw.nil ?_ | refine Pw.then_ ?_ | refine Pw.skip ?_ | refine Pw.block ?_ | refine Pw.exit ?_ | refine Pw.inX ?_ | refine Pw.inN ?_ | refine Pw.inR ?_ | refine Pw.thenX ?_ | refine Pw.thenR ?_ | refine Pw.ret ?_) | refine Pw.list (Pw.pure rfl rfl rfl ?_) | refine Pw.inY rfl ?_ | refine Pw.list (Pw.off rfl rfl ?_) | refine Pw.condT rfl ?_ | refine Pw.condF rfl ?_ | refine Pw.list (Pw.box rfl rfl rfl rfl (fun _ => ?_)) | refine Pw.list (Pw.alloc rfl rfl rfl rfl rfl (fun _ => ?_)) | refine Pw.list (Pw.build rfl rfl rfl rfl ?_) | refine Pw.list (Pw.ld rfl inferInstance rfl rfl rfl ?_) | refine Pw.list (Pw.sto rfl rfl inferInstance rfl rfl rfl rfl rfl inferInstance rfl ?_))
  refine Pw.drawnG mixed rfl rfl ?_
  refine Pw.takeP 0 (nb 15 1) rfl rfl rfl rfl (by kernel_rfl) np sf ?_
  refine Pw.takeF 1 (nb 15 3) rfl rfl inferInstance rfl rfl rfl (by kernel_rfl) np sf ?_
  refine Pw.takeP 2 (nb 15 7) rfl rfl rfl rfl (by kernel_rfl) np sf ?_
  refine Pw.takeF 3 (nb 15 15) rfl rfl inferInstance rfl rfl rfl (by kernel_rfl) np sf ?_
  refine Pw.takeP 5 (nb 15 47) rfl rfl rfl rfl (by kernel_rfl) np sf ?_
  refine Pw.takeP 6 (nb 15 111) rfl rfl rfl rfl (by kernel_rfl) np sf ?_
  refine Pw.takeP 7 (nb 15 239) rfl rfl rfl rfl (by kernel_rfl) np sf ?_
  refine Pw.takeF 8 (nb 15 495) rfl rfl inferInstance rfl rfl rfl (by kernel_rfl) np sf ?_
  refine Pw.one 4 (nb 15 511) rfl (by kernel_rfl) ?_
  refine Pw.call (times_ct [1] zl 5 lm1 (by simp)) rfl rfl rfl (by kernel_rfl) rfl rfl (fun w h => (hv w h)) ?_
  intro zp _
  rw [t15]
  refine Pw.held sf ?_
  refine Pw.one 9 (nb 15 1023) rfl (by kernel_rfl) ?_
  refine Pw.call (Mul_ct [5] [5] zp zn lm5 lm5 (by simp) (by simp)) rfl rfl rfl (by kernel_rfl) rfl rfl (fun w h => ⟨(hv w h), (hv w h)⟩) ?_
  intro zq _
  have hm1 := mulS_lm (a := [5]) (b := [5])
  generalize mulS [5] [5] = u1 at hm1 ⊢
  refine Pw.held sf ?_
  refine Pw.takeP 10 (nb 15 2047) rfl rfl rfl rfl (by kernel_rfl) np sf ?_
  refine Pw.takeP 11 (nb 15 4095) rfl rfl rfl rfl (by kernel_rfl) np sf ?_
  refine Pw.takeP 12 (nb 15 8191) rfl rfl rfl rfl (by kernel_rfl) np sf ?_
  refine Pw.takeP 13 (nb 15 16383) rfl rfl rfl rfl (by kernel_rfl) np sf ?_
  refine Pw.takeP 14 (nb 15 32767) rfl rfl rfl rfl (by kernel_rfl) np sf ?_
  refine Pw.done (by kernel_rfl) ?_
  skip
  repeat (first | (with_reducible first | refine Pw.seq ?_ | refine Pw.region ?_ | refine Pw.nil ?_ | refine Pw.then_ ?_ | refine Pw.skip ?_ | refine Pw.block ?_ | refine Pw.exit ?_ | refine Pw.inX ?_ | refine Pw.inN ?_ | refine Pw.inR ?_ | refine Pw.thenX ?_ | refine Pw.thenR ?_ | refine Pw.ret ?_) | refine Pw.list (Pw.pure rfl rfl rfl ?_) | refine Pw.inY rfl ?_ | refine Pw.list (Pw.off rfl rfl ?_) | refine Pw.condT rfl ?_ | refine Pw.condF rfl ?_ | refine Pw.list (Pw.box rfl rfl rfl rfl (fun _ => ?_)) | refine Pw.list (Pw.alloc rfl rfl rfl rfl rfl (fun _ => ?_)) | refine Pw.list (Pw.build rfl rfl rfl rfl ?_) | refine Pw.list (Pw.ld rfl inferInstance rfl rfl rfl ?_) | refine Pw.list (Pw.sto rfl rfl inferInstance rfl rfl rfl rfl rfl inferInstance rfl ?_))
  refine Pw.drawnG mixed rfl rfl ?_
  refine Pw.takeP 0 (nb 15 1) rfl rfl rfl rfl (by kernel_rfl) np sf ?_
  refine Pw.takeF 1 (nb 15 3) rfl rfl inferInstance rfl rfl rfl (by kernel_rfl) np sf ?_
  refine Pw.takeP 2 (nb 15 7) rfl rfl rfl rfl (by kernel_rfl) np sf ?_
  refine Pw.takeP 3 (nb 15 15) rfl rfl rfl rfl (by kernel_rfl) np sf ?_
  refine Pw.takeP 4 (nb 15 31) rfl rfl rfl rfl (by kernel_rfl) np sf ?_
  refine Pw.takeF 5 (nb 15 63) rfl rfl inferInstance rfl rfl rfl (by kernel_rfl) np sf ?_
  refine Pw.takeP 6 (nb 15 127) rfl rfl rfl rfl (by kernel_rfl) np sf ?_
  refine Pw.takeIx 7 (nb 15 255) rfl rfl rfl rfl rfl (by first | assumption | omega) (by first | assumption | omega) rfl rfl (by kernel_rfl) np sf ?_
  refine Pw.takeF 8 (nb 15 511) rfl rfl inferInstance rfl rfl rfl (by kernel_rfl) np sf ?_
  refine Pw.one 9 (nb 15 1023) rfl (by kernel_rfl) ?_
  refine Pw.call (Mul_ct [5] [1] zn zs lm5 lm1 (by simp) (by simp)) rfl rfl rfl (by kernel_rfl) rfl rfl (fun w h => ⟨(hv w h), (hv w h)⟩) ?_
  intro zr _
  have hm2 := mulS_lm (a := [5]) (b := [1])
  generalize mulS [5] [1] = u2 at hm2 ⊢
  refine Pw.held sf ?_
  refine Pw.takeP 10 (nb 15 2047) rfl rfl rfl rfl (by kernel_rfl) np sf ?_
  refine Pw.takeP 11 (nb 15 4095) rfl rfl rfl rfl (by kernel_rfl) np sf ?_
  refine Pw.takeP 12 (nb 15 8191) rfl rfl rfl rfl (by kernel_rfl) np sf ?_
  refine Pw.takeP 13 (nb 15 16383) rfl rfl rfl rfl (by kernel_rfl) np sf ?_
  refine Pw.takeP 14 (nb 15 32767) rfl rfl rfl rfl (by kernel_rfl) np sf ?_
  refine Pw.done (by kernel_rfl) ?_
  skip
  repeat (first | (with_reducible first | refine Pw.seq ?_ | refine Pw.region ?_ | refine Pw.nil ?_ | refine Pw.then_ ?_ | refine Pw.skip ?_ | refine Pw.block ?_ | refine Pw.exit ?_ | refine Pw.inX ?_ | refine Pw.inN ?_ | refine Pw.inR ?_ | refine Pw.thenX ?_ | refine Pw.thenR ?_ | refine Pw.ret ?_) | refine Pw.list (Pw.pure rfl rfl rfl ?_) | refine Pw.inY rfl ?_ | refine Pw.list (Pw.off rfl rfl ?_) | refine Pw.condT rfl ?_ | refine Pw.condF rfl ?_ | refine Pw.list (Pw.box rfl rfl rfl rfl (fun _ => ?_)) | refine Pw.list (Pw.alloc rfl rfl rfl rfl rfl (fun _ => ?_)) | refine Pw.list (Pw.build rfl rfl rfl rfl ?_) | refine Pw.list (Pw.ld rfl inferInstance rfl rfl rfl ?_) | refine Pw.list (Pw.sto rfl rfl inferInstance rfl rfl rfl rfl rfl inferInstance rfl ?_))
  refine Pw.re (d := 78) (v' := sl u1.1 zq) rfl rfl ?_
  refine Pw.re (d := 79) (v' := sl u2.1 zr) rfl rfl ?_
  have l1 := hm1.2
  have l2 := hm2.2
  refine Pw.list (Pw.call (Make_ct u1.1 u2.1 zq zr hm1.1.1 hm2.1.1 (by omega) (by omega)) rfl rfl rfl (by kernel_rfl) rfl rfl (fun w h => ⟨(hv w h), (hv w h)⟩) ?_)
  intro zx _
  generalize makeS u1.1 u2.1 = mx
  obtain ⟨x1, x2, x3⟩ := mx
  repeat (first | (with_reducible first | refine Pw.seq ?_ | refine Pw.region ?_ | refine Pw.nil ?_ | refine Pw.then_ ?_ | refine Pw.skip ?_ | refine Pw.block ?_ | refine Pw.exit ?_ | refine Pw.inX ?_ | refine Pw.inN ?_ | refine Pw.inR ?_ | refine Pw.thenX ?_ | refine Pw.thenR ?_ | refine Pw.ret ?_) | refine Pw.list (Pw.pure rfl rfl rfl ?_) | refine Pw.inY rfl ?_ | refine Pw.list (Pw.off rfl rfl ?_) | refine Pw.condT rfl ?_ | refine Pw.condF rfl ?_ | refine Pw.list (Pw.box rfl rfl rfl rfl (fun _ => ?_)) | refine Pw.list (Pw.alloc rfl rfl rfl rfl rfl (fun _ => ?_)) | refine Pw.list (Pw.build rfl rfl rfl rfl ?_) | refine Pw.list (Pw.ld rfl inferInstance rfl rfl rfl ?_) | refine Pw.list (Pw.sto rfl rfl inferInstance rfl rfl rfl rfl rfl inferInstance rfl ?_))
  refine freeHead ?_
  repeat (first | (with_reducible first | refine Pw.seq ?_ | refine Pw.region ?_ | refine Pw.nil ?_ | refine Pw.then_ ?_ | refine Pw.skip ?_ | refine Pw.block ?_ | refine Pw.exit ?_ | refine Pw.inX ?_ | refine Pw.inN ?_ | refine Pw.inR ?_ | refine Pw.thenX ?_ | refine Pw.thenR ?_ | refine Pw.ret ?_) | refine Pw.list (Pw.pure rfl rfl rfl ?_) | refine Pw.inY rfl ?_ | refine Pw.list (Pw.off rfl rfl ?_) | refine Pw.condT rfl ?_ | refine Pw.condF rfl ?_ | refine Pw.list (Pw.box rfl rfl rfl rfl (fun _ => ?_)) | refine Pw.list (Pw.alloc rfl rfl rfl rfl rfl (fun _ => ?_)) | refine Pw.list (Pw.build rfl rfl rfl rfl ?_) | refine Pw.list (Pw.ld rfl inferInstance rfl rfl rfl ?_) | refine Pw.list (Pw.sto rfl rfl inferInstance rfl rfl rfl rfl rfl inferInstance rfl ?_))
  refine Pw.list (Pw.lit14 rfl rfl rfl rfl rfl rfl rfl rfl rfl (fun gs0 => freeHead ?_))
  refine Pw.list (Pw.push (s := none) (m := 0) (cells := []) (news := [.int .i64 1, .int .i64 2, sl x1 zx.1, sl x2 zx.2]) rfl rfl rfl rfl rfl rfl rfl ⟨rfl, rfl⟩ rfl (fun u hu => by
    simp only [List.mem_cons, List.not_mem_nil, or_false] at hu
    rcases hu with rfl | rfl | rfl | rfl <;> rfl) (fun w hs j u hu => by
    have h1 : w.heap[gs0]? = some (row [.int .i64 1, .int .i64 2, sl x1 zx.1, sl x2 zx.2] 77) := fact0 hs.all
    rw [add_none, cell_of_blk h1]
    simpa using hu) (by omega) (by simp only [maxLen]; omega) (by show 1 * 64 ≤ _; omega) rfl rfl (fun qs hqs => ?_))
  obtain _ | ⟨gh, caph, exh⟩ := qs
  · have := hqs.1; omega
  refine freeHead (g := gh) (o := row (.int .i64 1 :: .int .i64 2 :: sl x1 zx.1 :: sl x2 zx.2 :: exh) 77) ?_
  refine Pw.re (d := 90) (v' := .slice (some ⟨gh, 0, none⟩) 1 caph) rfl rfl ?_
  repeat (first | (with_reducible first | refine Pw.seq ?_ | refine Pw.region ?_ | refine Pw.nil ?_ | refine Pw.then_ ?_ | refine Pw.skip ?_ | refine Pw.block ?_ | refine Pw.exit ?_ | refine Pw.inX ?_ | refine Pw.inN ?_ | refine Pw.inR ?_ | refine Pw.thenX ?_ | refine Pw.thenR ?_ | refine Pw.ret ?_) | refine Pw.list (Pw.pure rfl rfl rfl ?_) | refine Pw.inY rfl ?_ | refine Pw.list (Pw.off rfl rfl ?_) | refine Pw.condT rfl ?_ | refine Pw.condF rfl ?_ | refine Pw.list (Pw.box rfl rfl rfl rfl (fun _ => ?_)) | refine Pw.list (Pw.alloc rfl rfl rfl rfl rfl (fun _ => ?_)) | refine Pw.list (Pw.build rfl rfl rfl rfl ?_) | refine Pw.list (Pw.ld rfl inferInstance rfl rfl rfl ?_) | refine Pw.list (Pw.sto rfl rfl inferInstance rfl rfl rfl rfl rfl inferInstance rfl ?_))
  refine Pw.re (d := 33) (v' := .int .i64 1) rfl (by kernel_rfl) ?_
  refine Pw.round ?_
  repeat (first | (with_reducible first | refine Pw.seq ?_ | refine Pw.region ?_ | refine Pw.nil ?_ | refine Pw.then_ ?_ | refine Pw.skip ?_ | refine Pw.block ?_ | refine Pw.exit ?_ | refine Pw.inX ?_ | refine Pw.inN ?_ | refine Pw.inR ?_ | refine Pw.thenX ?_ | refine Pw.thenR ?_ | refine Pw.ret ?_) | refine Pw.list (Pw.pure rfl rfl rfl ?_) | refine Pw.inY rfl ?_ | refine Pw.list (Pw.off rfl rfl ?_) | refine Pw.condT rfl ?_ | refine Pw.condF rfl ?_ | refine Pw.list (Pw.box rfl rfl rfl rfl (fun _ => ?_)) | refine Pw.list (Pw.alloc rfl rfl rfl rfl rfl (fun _ => ?_)) | refine Pw.list (Pw.build rfl rfl rfl rfl ?_) | refine Pw.list (Pw.ld rfl inferInstance rfl rfl rfl ?_) | refine Pw.list (Pw.sto rfl rfl inferInstance rfl rfl rfl rfl rfl inferInstance rfl ?_))
  refine Pw.re (d := 22) (v' := .int .i64 1) rfl (by kernel_rfl) ?_
  refine Pw.round ?_
  repeat (first | (with_reducible first | refine Pw.seq ?_ | refine Pw.region ?_ | refine Pw.nil ?_ | refine Pw.then_ ?_ | refine Pw.skip ?_ | refine Pw.block ?_ | refine Pw.exit ?_ | refine Pw.inX ?_ | refine Pw.inN ?_ | refine Pw.inR ?_ | refine Pw.thenX ?_ | refine Pw.thenR ?_ | refine Pw.ret ?_) | refine Pw.list (Pw.pure rfl rfl rfl ?_) | refine Pw.inY rfl ?_ | refine Pw.list (Pw.off rfl rfl ?_) | refine Pw.condT rfl ?_ | refine Pw.condF rfl ?_ | refine Pw.list (Pw.box rfl rfl rfl rfl (fun _ => ?_)) | refine Pw.list (Pw.alloc rfl rfl rfl rfl rfl (fun _ => ?_)) | refine Pw.list (Pw.build rfl rfl rfl rfl ?_) | refine Pw.list (Pw.ld rfl inferInstance rfl rfl rfl ?_) | refine Pw.list (Pw.sto rfl rfl inferInstance rfl rfl rfl rfl rfl inferInstance rfl ?_))
  refine Pw.back hR (.tmp rfl .nil) rfl ?_
  refine Pw.held sf ?_
  refine Pw.takeP 6 (nb 9 127) rfl rfl rfl rfl (by kernel_rfl) np sf ?_
  refine Pw.takeP 7 (nb 9 255) rfl rfl rfl rfl (by kernel_rfl) np sf ?_
  refine Pw.takeP 8 (nb 9 511) rfl rfl rfl rfl (by kernel_rfl) np sf ?_
  refine Pw.done (by kernel_rfl) ?_
  repeat (first | (with_reducible first | refine Pw.seq ?_ | refine Pw.region ?_ | refine Pw.nil ?_ | refine Pw.then_ ?_ | refine Pw.skip ?_ | refine Pw.block ?_ | refine Pw.exit ?_ | refine Pw.inX ?_ | refine Pw.inN ?_ | refine Pw.inR ?_ | refine Pw.thenX ?_ | refine Pw.thenR ?_ | refine Pw.ret ?_) | refine Pw.list (Pw.pure rfl rfl rfl ?_) | refine Pw.inY rfl ?_ | refine Pw.list (Pw.off rfl rfl ?_) | refine Pw.condT rfl ?_ | refine Pw.condF rfl ?_ | refine Pw.list (Pw.box rfl rfl rfl rfl (fun _ => ?_)) | refine Pw.list (Pw.alloc rfl rfl rfl rfl rfl (fun _ => ?_)) | refine Pw.list (Pw.build rfl rfl rfl rfl ?_) | refine Pw.list (Pw.ld rfl inferInstance rfl rfl rfl ?_) | refine Pw.list (Pw.sto rfl rfl inferInstance rfl rfl rfl rfl rfl inferInstance rfl ?_))
  exact Pw.ret_ (x := (gs, caps, .slice (some ⟨gh, 0, none⟩) 1 caph)) (.tmp rfl (.tmp rfl (.tmp rfl .nil))) rfl trivial (fun w h => hv (φ := fun W => W.cell? ⟨gs, 0, none⟩ = some (.int .i64 2)) w h)
end Go.Proofs.Wk
/- Elections: awake of chapter eleven; the law PhragmenSupports. -/
namespace Go.Proofs.Wk
open Go.RowKit
set_option maxRecDepth 100000
set_option maxHeartbeats 4000000
attribute [local irreducible] Pw OpG
set_option linter.unusedVariables false
set_option linter.unusedSimpArgs false
theorem eawake_ct : Ct Try.prog 6 #[] (fun _ => True) (fun _ : Unit => .bool true) Tt (fun _ _ => True) := by
  refine Ct.start Try.func6 rfl rfl (slots_of rfl slots0) (fun D w0 => ?_)
  repeat (first | (with_reducible first | refine Pw.seq ?_ | refine Pw.region ?_ | refine Pw.nil ?_ | refine Pw.then_ ?_ | refine Pw.skip ?_ | refine Pw.block ?_ | refine Pw.exit ?_ | refine Pw.inX ?_ | refine Pw.inN ?_ | refine Pw.inR ?_ | refine Pw.thenX ?_ | refine Pw.thenR ?_ | refine Pw.ret ?_) | refine Pw.list (Pw.pure rfl rfl rfl ?_) | refine Pw.inY rfl ?_ | refine Pw.list (Pw.off rfl rfl ?_) | refine Pw.condT rfl ?_ | refine Pw.condF rfl ?_ | refine Pw.list (Pw.box rfl rfl rfl rfl (fun _ => ?_)) | refine Pw.list (Pw.alloc rfl rfl rfl rfl rfl (fun _ => ?_)) | refine Pw.list (Pw.build rfl rfl rfl rfl ?_) | refine Pw.list (Pw.ld rfl inferInstance rfl rfl rfl ?_) | refine Pw.list (Pw.sto rfl rfl inferInstance rfl rfl rfl rfl rfl inferInstance rfl ?_))
  refine Pw.list (Pw.lit1 rfl rfl rfl rfl rfl rfl rfl rfl rfl (fun g5 => freeHead ?_))
  repeat (first | (with_reducible first | refine Pw.seq ?_ | refine Pw.region ?_ | refine Pw.nil ?_ | refine Pw.then_ ?_ | refine Pw.skip ?_ | refine Pw.block ?_ | refine Pw.exit ?_ | refine Pw.inX ?_ | refine Pw.inN ?_ | refine Pw.inR ?_ | refine Pw.thenX ?_ | refine Pw.thenR ?_ | refine Pw.ret ?_) | refine Pw.list (Pw.pure rfl rfl rfl ?_) | refine Pw.inY rfl ?_ | refine Pw.list (Pw.off rfl rfl ?_) | refine Pw.condT rfl ?_ | refine Pw.condF rfl ?_ | refine Pw.list (Pw.box rfl rfl rfl rfl (fun _ => ?_)) | refine Pw.list (Pw.alloc rfl rfl rfl rfl rfl (fun _ => ?_)) | refine Pw.list (Pw.build rfl rfl rfl rfl ?_) | refine Pw.list (Pw.ld rfl inferInstance rfl rfl rfl ?_) | refine Pw.list (Pw.sto rfl rfl inferInstance rfl rfl rfl rfl rfl inferInstance rfl ?_))
  refine Pw.list (Pw.lit13 rfl rfl rfl rfl rfl rfl rfl rfl rfl (fun g7 => freeHead ?_))
  repeat (first | (with_reducible first | refine Pw.seq ?_ | refine Pw.region ?_ | refine Pw.nil ?_ | refine Pw.then_ ?_ | refine Pw.skip ?_ | refine Pw.block ?_ | refine Pw.exit ?_ | refine Pw.inX ?_ | refine Pw.inN ?_ | refine Pw.inR ?_ | refine Pw.thenX ?_ | refine Pw.thenR ?_ | refine Pw.ret ?_) | refine Pw.list (Pw.pure rfl rfl rfl ?_) | refine Pw.inY rfl ?_ | refine Pw.list (Pw.off rfl rfl ?_) | refine Pw.condT rfl ?_ | refine Pw.condF rfl ?_ | refine Pw.list (Pw.box rfl rfl rfl rfl (fun _ => ?_)) | refine Pw.list (Pw.alloc rfl rfl rfl rfl rfl (fun _ => ?_)) | refine Pw.list (Pw.build rfl rfl rfl rfl ?_) | refine Pw.list (Pw.ld rfl inferInstance rfl rfl rfl ?_) | refine Pw.list (Pw.sto rfl rfl inferInstance rfl rfl rfl rfl rfl inferInstance rfl ?_))
  refine Pw.list (Pw.lit1 rfl rfl rfl rfl rfl rfl rfl rfl rfl (fun g8 => freeHead ?_))
  repeat (first | (with_reducible first | refine Pw.seq ?_ | refine Pw.region ?_ | refine Pw.nil ?_ | refine Pw.then_ ?_ | refine Pw.skip ?_ | refine Pw.block ?_ | refine Pw.exit ?_ | refine Pw.inX ?_ | refine Pw.inN ?_ | refine Pw.inR ?_ | refine Pw.thenX ?_ | refine Pw.thenR ?_ | refine Pw.ret ?_) | refine Pw.list (Pw.pure rfl rfl rfl ?_) | refine Pw.inY rfl ?_ | refine Pw.list (Pw.off rfl rfl ?_) | refine Pw.condT rfl ?_ | refine Pw.condF rfl ?_ | refine Pw.list (Pw.box rfl rfl rfl rfl (fun _ => ?_)) | refine Pw.list (Pw.alloc rfl rfl rfl rfl rfl (fun _ => ?_)) | refine Pw.list (Pw.build rfl rfl rfl rfl ?_) | refine Pw.list (Pw.ld rfl inferInstance rfl rfl rfl ?_) | refine Pw.list (Pw.sto rfl rfl inferInstance rfl rfl rfl rfl rfl inferInstance rfl ?_))
  refine Pw.list (Pw.call (Elect1_ct (some ⟨g5, 0, none⟩, 1) (some ⟨g7, 0, none⟩, 1) (some ⟨g8, 0, none⟩, 1)) rfl rfl rfl (by kernel_rfl) rfl rfl (fun w h => ⟨rows_of_row (l := [(⟨1, 5, [2], (some ⟨g5, 0, none⟩, 1)⟩ : Vtr)]) (ex := []) (by rw [List.append_nil]; exact fact1 h) (fun y hy => by rw [List.mem_singleton.1 hy]; rfl) (fun y hy => by
    rw [List.mem_singleton.1 hy]
    exact ints_of_row' (l := [2]) (fact2 h) (by simp) (by simp [maxLen])) (by simp) (by simp [maxLen]) (by omega), ints_of_row' (l := [2]) (fact0 h) (by simp) (by simp [maxLen])⟩) ?_)
  rintro ⟨gs, caps, v⟩ _
  repeat (first | (with_reducible first | refine Pw.seq ?_ | refine Pw.region ?_ | refine Pw.nil ?_ | refine Pw.then_ ?_ | refine Pw.skip ?_ | refine Pw.block ?_ | refine Pw.exit ?_ | refine Pw.inX ?_ | refine Pw.inN ?_ | refine Pw.inR ?_ | refine Pw.thenX ?_ | refine Pw.thenR ?_ | refine Pw.ret ?_) | refine Pw.list (Pw.pure rfl rfl rfl ?_) | refine Pw.inY rfl ?_ | refine Pw.list (Pw.off rfl rfl ?_) | refine Pw.condT rfl ?_ | refine Pw.condF rfl ?_ | refine Pw.list (Pw.box rfl rfl rfl rfl (fun _ => ?_)) | refine Pw.list (Pw.alloc rfl rfl rfl rfl rfl (fun _ => ?_)) | refine Pw.list (Pw.build rfl rfl rfl rfl ?_) | refine Pw.list (Pw.ld rfl inferInstance rfl rfl rfl ?_) | refine Pw.list (Pw.sto rfl rfl inferInstance rfl rfl rfl rfl rfl inferInstance rfl ?_))
  refine Pw.list (Pw.indexS rfl rfl rfl rfl (Int.le_refl 0) (by show (0 : Int) < 1; omega) rfl rfl ?_)
  refine Pw.list (Pw.fieldS rfl rfl rfl rfl rfl rfl rfl ?_)
  refine Pw.list (Pw.load1 (v := .int .i64 2) rfl rfl (fun w hs => fact0 hs.all) rfl rfl ?_)
  repeat (first | (with_reducible first | refine Pw.seq ?_ | refine Pw.region ?_ | refine Pw.nil ?_ | refine Pw.then_ ?_ | refine Pw.skip ?_ | refine Pw.block ?_ | refine Pw.exit ?_ | refine Pw.inX ?_ | refine Pw.inN ?_ | refine Pw.inR ?_ | refine Pw.thenX ?_ | refine Pw.thenR ?_ | refine Pw.ret ?_) | refine Pw.list (Pw.pure rfl rfl rfl ?_) | refine Pw.inY rfl ?_ | refine Pw.list (Pw.off rfl rfl ?_) | refine Pw.condT rfl ?_ | refine Pw.condF rfl ?_ | refine Pw.list (Pw.box rfl rfl rfl rfl (fun _ => ?_)) | refine Pw.list (Pw.alloc rfl rfl rfl rfl rfl (fun _ => ?_)) | refine Pw.list (Pw.build rfl rfl rfl rfl ?_) | refine Pw.list (Pw.ld rfl inferInstance rfl rfl rfl ?_) | refine Pw.list (Pw.sto rfl rfl inferInstance rfl rfl rfl rfl rfl inferInstance rfl ?_))
  exact Pw.ret_ (x := ()) (.tmp rfl .nil) rfl trivial (fun w h => by trivial)
end Go.Proofs.Wk
