/- Walks and their mathematics, merged. No conditions beyond those written. -/
import Derived.Test.YtphmegjmmjmbeaaWmPhragmenIdle4
/- Elections: Elect of no voters; Elect of any snapshot. -/
namespace Go.Proofs.Wk
open Go.RowKit
set_option maxRecDepth 100000
set_option maxHeartbeats 8000000
attribute [local irreducible] Pw OpG
set_option linter.unusedVariables false
set_option linter.unusedSimpArgs false
abbrev r0L (zv : Option Addr × Nat) (cs : List Int) (zc : Option Addr × Nat) (gr ga : Nat) (zd : Option Addr × Nat) : List Blk :=
  [⟨gr, row [.slice zv.1 0 zv.2, sl cs zc, .map (some ga), sl (natL 1) zd, .slice none 0 0, .slice none 0 0, .slice none 0 0] 75⟩, ⟨ga, mapO []⟩]
theorem newRunner0_ct (zv : Option Addr × Nat) (cs : List Int) (zc : Option Addr × Nat) :
    CtB Try.prog 26 #[snV ⟨[], zv, cs, zc⟩] [] (snF ⟨[], zv, cs, zc⟩) (fun y : Nat × Nat × (Option Addr × Nat) => .pointer (some ⟨y.1, 0, none⟩)) Tt
      (fun y => r0L zv cs zc y.1 y.2.1 y.2.2) (fun y W => S1 (natL 1) y.2.2 W) := by
  obtain ⟨Av, cv⟩ := zv
  obtain ⟨Ac, cc⟩ := zc
  refine CtB.start Try.func26 rfl rfl (slots_of rfl slots1) (fun D0 w0 => Pw.facts sn2 ?_)
  repeat (first | (with_reducible first | refine Pw.seq ?_ | refine Pw.region ?_ | refine Pw.nil ?_ | refine Pw.then_ ?_ | refine Pw.skip ?_ | refine Pw.block ?_ | refine Pw.exit ?_ | refine Pw.inX ?_ | refine Pw.inN ?_ | refine Pw.inR ?_ | refine Pw.thenX ?_ | refine Pw.thenR ?_ | refine Pw.ret ?_) | refine Pw.list (Pw.pure rfl rfl rfl ?_) | refine Pw.inY rfl ?_ | refine Pw.list (Pw.off rfl rfl ?_) | refine Pw.condT rfl ?_ | refine Pw.condF rfl ?_)
  refine Pw.list (Pw.box rfl rfl rfl rfl (fun g1 => freeHead ?_))
  repeat (first | (with_reducible first | refine Pw.seq ?_ | refine Pw.region ?_ | refine Pw.nil ?_ | refine Pw.then_ ?_ | refine Pw.skip ?_ | refine Pw.block ?_ | refine Pw.exit ?_ | refine Pw.inX ?_ | refine Pw.inN ?_ | refine Pw.inR ?_ | refine Pw.thenX ?_ | refine Pw.thenR ?_ | refine Pw.ret ?_) | refine Pw.list (Pw.pure rfl rfl rfl ?_) | refine Pw.inY rfl ?_ | refine Pw.list (Pw.off rfl rfl ?_) | refine Pw.condT rfl ?_ | refine Pw.condF rfl ?_ | refine Pw.list (Pw.box rfl rfl rfl rfl (fun _ => ?_)) | refine Pw.list (Pw.alloc rfl rfl rfl rfl rfl (fun _ => ?_)) | refine Pw.list (Pw.build rfl rfl rfl rfl ?_) | refine Pw.list (Pw.ld rfl inferInstance rfl rfl rfl ?_) | refine Pw.list (Pw.sto rfl rfl inferInstance rfl rfl rfl rfl rfl inferInstance rfl ?_))
  refine Pw.joinQ (σ := Nat × Nat × (Option Addr × Nat)) (fun _ => True) (fun t => ⟨[(1, .pointer (some ⟨g1, 0, none⟩)), (3, .pointer (some ⟨t.1, 0, none⟩))], r0L (Av, cv) cs (Ac, cc) t.1 t.2.1 t.2.2, [S1 (natL 1) t.2.2, fun W => W.heap[g1]? = some (row [.slice Av 0 cv, sl cs (Ac, cc)] 25)]⟩) ?_ ?_
  · skip
    refine Pw.drawnG mixed rfl rfl ?_
    refine Pw.takeF 0 (nb 6 1) rfl rfl inferInstance rfl rfl rfl (by kernel_rfl) np sf ?_
    refine Pw.two 1 2 (nb 6 3) (nb 6 5) rfl rfl (by kernel_rfl) ?_ ?_
    · skip
      refine Pw.makeMap rfl rfl (fun ga => ?_)
      refine Pw.held sf ?_
      refine Pw.one 2 (nb 6 7) rfl (by kernel_rfl) ?_
      refine Pw.call (Of_ct 1) rfl rfl rfl (by kernel_rfl) rfl rfl (fun w h => trivial) ?_
      intro zd _
      rw [ofN_natL (by omega) (by omega)]
      refine Pw.held sf ?_
      refine Pw.takeBuild 3 (nb 6 15) rfl rfl rfl rfl rfl (by kernel_rfl) np sf ?_
      refine Pw.one 4 (nb 6 31) rfl (by kernel_rfl) ?_
      refine Pw.box rfl rfl rfl rfl (fun gr => ?_)
      refine Pw.held sf ?_
      refine Pw.takeP 5 (nb 6 63) rfl rfl rfl rfl (by kernel_rfl) np sf ?_
      refine Pw.done (by kernel_rfl) ?_
      exact Pw.then_ (Pw.arrive (gr, ga, zd) trivial ⟨rfl, rfl, trivial⟩ rfl (fun w h => allCons (hv w h) (allCons (Blks.h (L := []) (g := g1) w (fun b hb => by cases hb) h) allNil)))
    · skip
      refine Pw.call (Of_ct 1) rfl rfl rfl (by kernel_rfl) rfl rfl (fun w h => trivial) ?_
      intro zd _
      rw [ofN_natL (by omega) (by omega)]
      refine Pw.held sf ?_
      refine Pw.one 1 (nb 6 7) rfl (by kernel_rfl) ?_
      refine Pw.makeMap rfl rfl (fun ga => ?_)
      refine Pw.held sf ?_
      refine Pw.takeBuild 3 (nb 6 15) rfl rfl rfl rfl rfl (by kernel_rfl) np sf ?_
      refine Pw.one 4 (nb 6 31) rfl (by kernel_rfl) ?_
      refine Pw.box rfl rfl rfl rfl (fun gr => ?_)
      refine Pw.held sf ?_
      refine Pw.takeP 5 (nb 6 63) rfl rfl rfl rfl (by kernel_rfl) np sf ?_
      refine Pw.done (by kernel_rfl) ?_
      exact Pw.then_ (Pw.arrive (gr, ga, zd) trivial ⟨rfl, rfl, trivial⟩ rfl (fun w h => allCons (hv w h) (allCons (Blks.h (L := []) (g := g1) w (fun b hb => by cases hb) h) allNil)))
  rintro ⟨gr, ga, zd⟩ _
  dsimp only
  repeat (first | (with_reducible first | refine Pw.seq ?_ | refine Pw.region ?_ | refine Pw.nil ?_ | refine Pw.then_ ?_ | refine Pw.skip ?_ | refine Pw.block ?_ | refine Pw.exit ?_ | refine Pw.inX ?_ | refine Pw.inN ?_ | refine Pw.inR ?_ | refine Pw.thenX ?_ | refine Pw.thenR ?_ | refine Pw.ret ?_) | refine Pw.list (Pw.pure rfl rfl rfl ?_) | refine Pw.inY rfl ?_ | refine Pw.list (Pw.off rfl rfl ?_) | refine Pw.condT rfl ?_ | refine Pw.condF rfl ?_ | refine Pw.list (Pw.box rfl rfl rfl rfl (fun _ => ?_)) | refine Pw.list (Pw.alloc rfl rfl rfl rfl rfl (fun _ => ?_)) | refine Pw.list (Pw.build rfl rfl rfl rfl ?_) | refine Pw.list (Pw.ld rfl inferInstance rfl rfl rfl ?_) | refine Pw.list (Pw.sto rfl rfl inferInstance rfl rfl rfl rfl rfl inferInstance rfl ?_))
  refine Pw.rounds 2 (Pw.round ?_)
  repeat (first | (with_reducible first | refine Pw.seq ?_ | refine Pw.region ?_ | refine Pw.nil ?_ | refine Pw.then_ ?_ | refine Pw.skip ?_ | refine Pw.block ?_ | refine Pw.exit ?_ | refine Pw.inX ?_ | refine Pw.inN ?_ | refine Pw.inR ?_ | refine Pw.thenX ?_ | refine Pw.thenR ?_ | refine Pw.ret ?_) | refine Pw.list (Pw.pure rfl rfl rfl ?_) | refine Pw.inY rfl ?_ | refine Pw.list (Pw.off rfl rfl ?_) | refine Pw.condT rfl ?_ | refine Pw.condF rfl ?_ | refine Pw.list (Pw.box rfl rfl rfl rfl (fun _ => ?_)) | refine Pw.list (Pw.alloc rfl rfl rfl rfl rfl (fun _ => ?_)) | refine Pw.list (Pw.build rfl rfl rfl rfl ?_) | refine Pw.list (Pw.ld rfl inferInstance rfl rfl rfl ?_) | refine Pw.list (Pw.sto rfl rfl inferInstance rfl rfl rfl rfl rfl inferInstance rfl ?_))
  exact Pw.retB (x := (gr, ga, zd)) (List.Sublist.refl _) (.tmp rfl .nil) rfl trivial (fun w h => (hv w h))
theorem round0_ct (zv : Option Addr × Nat) (cs : List Int) (zc : Option Addr × Nat) (gr ga : Nat) (zd : Option Addr × Nat) (hcn : cs.length ≤ 32) :
    CtB Try.prog 27 #[.pointer (some ⟨gr, 0, none⟩)] (r0L zv cs zc gr ga zd) (I1 cs zc) (fun _ : Unit => .bool false) Tt (fun _ => r0L zv cs zc gr ga zd) (fun _ _ => True) := by
  obtain ⟨Ac, cc⟩ := zc
  refine CtB.start Try.func27 rfl rfl (slots_of rfl slots1) (fun D0 w0 => ?_)
  repeat (first | (with_reducible first | refine Pw.seq ?_ | refine Pw.region ?_ | refine Pw.nil ?_ | refine Pw.then_ ?_ | refine Pw.skip ?_ | refine Pw.block ?_ | refine Pw.exit ?_ | refine Pw.inX ?_ | refine Pw.inN ?_ | refine Pw.inR ?_ | refine Pw.thenX ?_ | refine Pw.thenR ?_ | refine Pw.ret ?_) | refine Pw.list (Pw.pure rfl rfl rfl ?_) | refine Pw.inY rfl ?_ | refine Pw.list (Pw.off rfl rfl ?_) | refine Pw.condT rfl ?_ | refine Pw.condF rfl ?_ | refine Pw.list (Pw.box rfl rfl rfl rfl (fun _ => ?_)) | refine Pw.list (Pw.alloc rfl rfl rfl rfl rfl (fun _ => ?_)) | refine Pw.list (Pw.build rfl rfl rfl rfl ?_) | refine Pw.list (Pw.ld rfl inferInstance rfl rfl rfl ?_) | refine Pw.list (Pw.sto rfl rfl inferInstance rfl rfl rfl rfl rfl inferInstance rfl ?_))
  refine Pw.loopJ (σ := Nat) (fun j => j ≤ cs.length) (fun j => ⟨[(0, .pointer (some ⟨gr, 0, none⟩)), (3, .int .i64 (-1)), (21, .slice Ac cs.length cc), (22, .int .i64 cs.length), (23, .int .i64 j)], r0L zv cs (Ac, cc) gr ga zd, [I1 cs (Ac, cc)]⟩) (fun j => cs.length - j) 0 (Nat.zero_le _) (Pw.enter ⟨rfl, rfl, rfl, rfl, rfl, trivial⟩ (fun w h => h)) ?_
  rintro j hj
  dsimp only at hj ⊢
  repeat (first | (with_reducible first | refine Pw.seq ?_ | refine Pw.region ?_ | refine Pw.nil ?_ | refine Pw.then_ ?_ | refine Pw.skip ?_ | refine Pw.block ?_ | refine Pw.exit ?_ | refine Pw.inX ?_ | refine Pw.inN ?_ | refine Pw.inR ?_ | refine Pw.thenX ?_ | refine Pw.thenR ?_ | refine Pw.ret ?_) | refine Pw.list (Pw.pure rfl rfl rfl ?_) | refine Pw.inY rfl ?_ | refine Pw.list (Pw.off rfl rfl ?_) | refine Pw.condT rfl ?_ | refine Pw.condF rfl ?_)
  refine Pw.condD rfl (fun cj => ?_) (fun cj => ?_)
  · obtain ⟨c, hc, hcm⟩ := get_at (show j < cs.length by omega)
    repeat (first | (with_reducible first | refine Pw.seq ?_ | refine Pw.region ?_ | refine Pw.nil ?_ | refine Pw.then_ ?_ | refine Pw.skip ?_ | refine Pw.block ?_ | refine Pw.exit ?_ | refine Pw.inX ?_ | refine Pw.inN ?_ | refine Pw.inR ?_ | refine Pw.thenX ?_ | refine Pw.thenR ?_ | refine Pw.ret ?_) | refine Pw.list (Pw.pure rfl rfl rfl ?_) | refine Pw.inY rfl ?_ | refine Pw.list (Pw.off rfl rfl ?_) | refine Pw.condT rfl ?_ | refine Pw.condF rfl ?_)
    refine Pw.list (Pw.index rfl rfl rfl rfl (Int.natCast_nonneg j) cj (fun w h => (hv w h : I1 cs (Ac, cc) w).has (Int.natCast_nonneg j) cj) rfl rfl ?_)
    rintro ad rfl
    refine Pw.list (Pw.load1 rfl rfl (fun w hs => (hv w hs.all : I1 cs (some ad, cc) w).cell (Int.natCast_nonneg j) cj) rfl rfl ?_)
    rw [get_rd hc]
    refine Pw.list (Pw.alloc rfl rfl rfl rfl rfl (fun g7 => ?_))
    repeat (first | (with_reducible first | refine Pw.seq ?_ | refine Pw.region ?_ | refine Pw.nil ?_ | refine Pw.then_ ?_ | refine Pw.skip ?_ | refine Pw.block ?_ | refine Pw.exit ?_ | refine Pw.inX ?_ | refine Pw.inN ?_ | refine Pw.inR ?_ | refine Pw.thenX ?_ | refine Pw.thenR ?_ | refine Pw.ret ?_) | refine Pw.list (Pw.pure rfl rfl rfl ?_) | refine Pw.inY rfl ?_ | refine Pw.list (Pw.off rfl rfl ?_) | refine Pw.condT rfl ?_ | refine Pw.condF rfl ?_ | refine Pw.list (Pw.box rfl rfl rfl rfl (fun _ => ?_)) | refine Pw.list (Pw.alloc rfl rfl rfl rfl rfl (fun _ => ?_)) | refine Pw.list (Pw.build rfl rfl rfl rfl ?_) | refine Pw.list (Pw.ld rfl inferInstance rfl rfl rfl ?_) | refine Pw.list (Pw.sto rfl rfl inferInstance rfl rfl rfl rfl rfl inferInstance rfl ?_))
    refine freeHead ?_
    refine Pw.drawnH (g := gr) inferInstance mixed rfl rfl ?_
    refine Pw.takeP 0 (nb 16 1) rfl rfl rfl rfl (by kernel_rfl) np so ?_
    refine Pw.takeP 1 (nb 16 3) rfl rfl rfl rfl (by kernel_rfl) np so ?_
    refine Pw.takeP 2 (nb 16 7) rfl rfl rfl rfl (by kernel_rfl) np so ?_
    refine Pw.takeF 3 (nb 16 15) rfl rfl inferInstance rfl rfl rfl (by kernel_rfl) np so ?_
    refine Pw.takeF 4 (nb 16 31) rfl rfl inferInstance rfl rfl rfl (by kernel_rfl) np so ?_
    refine Pw.one 5 (nb 16 63) rfl (by kernel_rfl) ?_
    refine Pw.lookupF (m := []) rfl rfl rfl rfl rfl rfl (fun w hs => hs.own ⟨ga, mapO []⟩ (.tail _ (.head _))) rfl rfl ?_
    refine Pw.re (d := 32) (v' := .slice none 0 0) rfl rfl ?_
    refine Pw.held so ?_
    refine Pw.takeP 6 (nb 16 127) rfl rfl rfl rfl (by kernel_rfl) np so ?_
    refine Pw.takeP 7 (nb 16 255) rfl rfl rfl rfl (by kernel_rfl) np so ?_
    refine Pw.takeP 8 (nb 16 511) rfl rfl rfl rfl (by kernel_rfl) np so ?_
    refine Pw.re (d := 35) (v' := .bool true) rfl rfl ?_
    refine Pw.takeO 9 (nb 16 1023) rfl rfl rfl (by kernel_rfl) np so ?_
    refine Pw.takeO 10 (nb 16 2047) rfl rfl rfl (by kernel_rfl) np so ?_
    refine Pw.takeO 11 (nb 16 4095) rfl rfl rfl (by kernel_rfl) np so ?_
    refine Pw.takeO 12 (nb 16 8191) rfl rfl rfl (by kernel_rfl) np so ?_
    refine Pw.takeO 13 (nb 16 16383) rfl rfl rfl (by kernel_rfl) np so ?_
    refine Pw.takeO 14 (nb 16 32767) rfl rfl rfl (by kernel_rfl) np so ?_
    refine Pw.takeP 15 (nb 16 65535) rfl rfl rfl rfl (by kernel_rfl) np so ?_
    refine Pw.done (by kernel_rfl) ?_
    skip
    repeat (first | (with_reducible first | refine Pw.seq ?_ | refine Pw.region ?_ | refine Pw.nil ?_ | refine Pw.then_ ?_ | refine Pw.skip ?_ | refine Pw.block ?_ | refine Pw.exit ?_ | refine Pw.inX ?_ | refine Pw.inN ?_ | refine Pw.inR ?_ | refine Pw.thenX ?_ | refine Pw.thenR ?_ | refine Pw.ret ?_) | refine Pw.list (Pw.pure rfl rfl rfl ?_) | refine Pw.inY rfl ?_ | refine Pw.list (Pw.off rfl rfl ?_) | refine Pw.condT rfl ?_ | refine Pw.condF rfl ?_ | refine Pw.list (Pw.box rfl rfl rfl rfl (fun _ => ?_)) | refine Pw.list (Pw.alloc rfl rfl rfl rfl rfl (fun _ => ?_)) | refine Pw.list (Pw.build rfl rfl rfl rfl ?_) | refine Pw.list (Pw.ld rfl inferInstance rfl rfl rfl ?_) | refine Pw.list (Pw.sto rfl rfl inferInstance rfl rfl rfl rfl rfl inferInstance rfl ?_))
    refine Pw.re (d := 23) (v' := .int .i64 ((j + 1 : Nat) : Int)) rfl (congrArg (Value.int .i64) (i64s (n := 100000) (by omega) (by omega))) ?_
    exact Pw.again (j + 1) (by show j + 1 ≤ cs.length; omega) (by show cs.length - (j + 1) < cs.length - j; omega) ⟨rfl, rfl, rfl, rfl, rfl, trivial⟩ rfl (fun w h => allTail h)
  · repeat (first | (with_reducible first | refine Pw.seq ?_ | refine Pw.region ?_ | refine Pw.nil ?_ | refine Pw.then_ ?_ | refine Pw.skip ?_ | refine Pw.block ?_ | refine Pw.exit ?_ | refine Pw.inX ?_ | refine Pw.inN ?_ | refine Pw.inR ?_ | refine Pw.thenX ?_ | refine Pw.thenR ?_ | refine Pw.ret ?_) | refine Pw.list (Pw.pure rfl rfl rfl ?_) | refine Pw.inY rfl ?_ | refine Pw.list (Pw.off rfl rfl ?_) | refine Pw.condT rfl ?_ | refine Pw.condF rfl ?_ | refine Pw.list (Pw.box rfl rfl rfl rfl (fun _ => ?_)) | refine Pw.list (Pw.alloc rfl rfl rfl rfl rfl (fun _ => ?_)) | refine Pw.list (Pw.build rfl rfl rfl rfl ?_) | refine Pw.list (Pw.ld rfl inferInstance rfl rfl rfl ?_) | refine Pw.list (Pw.sto rfl rfl inferInstance rfl rfl rfl rfl rfl inferInstance rfl ?_))
    exact Pw.retB (x := ()) (List.Sublist.refl _) (.tmp rfl .nil) rfl trivial (fun w h => trivial)
theorem shares0_ct (zv : Option Addr × Nat) (cs : List Int) (zc : Option Addr × Nat) (gr ga : Nat) (zd : Option Addr × Nat) :
    Ct Try.prog 28 #[.pointer (some ⟨gr, 0, none⟩)] (fun W => W.heap[gr]? = some (row [.slice zv.1 0 zv.2, sl cs zc, .map (some ga), sl (natL 1) zd, .slice none 0 0, .slice none 0 0, .slice none 0 0] 75)) (fun _ : Unit => .slice none 0 0) Tt (fun _ _ => True) := by
  refine Ct.start Try.func28 rfl rfl (slots_of rfl slots1) (fun D0 w0 => ?_)
  repeat (first | (with_reducible first | refine Pw.seq ?_ | refine Pw.region ?_ | refine Pw.nil ?_ | refine Pw.then_ ?_ | refine Pw.skip ?_ | refine Pw.block ?_ | refine Pw.exit ?_ | refine Pw.inX ?_ | refine Pw.inN ?_ | refine Pw.inR ?_ | refine Pw.thenX ?_ | refine Pw.thenR ?_ | refine Pw.ret ?_) | refine Pw.list (Pw.pure rfl rfl rfl ?_) | refine Pw.inY rfl ?_ | refine Pw.list (Pw.off rfl rfl ?_) | refine Pw.condT rfl ?_ | refine Pw.condF rfl ?_ | refine Pw.list (Pw.box rfl rfl rfl rfl (fun _ => ?_)) | refine Pw.list (Pw.alloc rfl rfl rfl rfl rfl (fun _ => ?_)) | refine Pw.list (Pw.build rfl rfl rfl rfl ?_) | refine Pw.list (Pw.ld rfl inferInstance rfl rfl rfl ?_) | refine Pw.list (Pw.sto rfl rfl inferInstance rfl rfl rfl rfl rfl inferInstance rfl ?_))
  refine Pw.rounds 2 (Pw.round ?_)
  repeat (first | (with_reducible first | refine Pw.seq ?_ | refine Pw.region ?_ | refine Pw.nil ?_ | refine Pw.then_ ?_ | refine Pw.skip ?_ | refine Pw.block ?_ | refine Pw.exit ?_ | refine Pw.inX ?_ | refine Pw.inN ?_ | refine Pw.inR ?_ | refine Pw.thenX ?_ | refine Pw.thenR ?_ | refine Pw.ret ?_) | refine Pw.list (Pw.pure rfl rfl rfl ?_) | refine Pw.inY rfl ?_ | refine Pw.list (Pw.off rfl rfl ?_) | refine Pw.condT rfl ?_ | refine Pw.condF rfl ?_ | refine Pw.list (Pw.box rfl rfl rfl rfl (fun _ => ?_)) | refine Pw.list (Pw.alloc rfl rfl rfl rfl rfl (fun _ => ?_)) | refine Pw.list (Pw.build rfl rfl rfl rfl ?_) | refine Pw.list (Pw.ld rfl inferInstance rfl rfl rfl ?_) | refine Pw.list (Pw.sto rfl rfl inferInstance rfl rfl rfl rfl rfl inferInstance rfl ?_))
  exact Pw.ret_ (x := ()) (.tmp rfl .nil) rfl trivial (fun w h => trivial)
theorem rnd_nil (cs : List Int) (S : Est) : rnd [] cs S = none := by
  have key : ∀ l : List Int, l.foldl (seek [] S) none = none := by
    intro l
    induction l with
    | nil => rfl
    | cons c l ih =>
      rw [List.foldl_cons]
      exact ih
  unfold rnd best
  rw [key]; rfl
theorem elect_nil (cs : List Int) (k : Nat) : electE [] cs k = begE [] := by
  unfold electE
  cases k with
  | zero => rfl
  | succ k => unfold runE; rw [rnd_nil]
/-- What Elect answers. -/
def eaOk (s : Sn) (k : Int) (y : Ea) : Prop := y.os.map (fun o => (o.at_, o.a, o.b)) = (electE s.vs s.cs k.toNat).se.map seatQ ∧ y.sh.map shK = shTo s.vs s.cs (electE s.vs s.cs k.toNat) s.vs.length
theorem Elect0_ct (s : Sn) (k : Int) (hW : snW s) (hF : formB s = true) (hn : s.vs = []) (h0 : 0 ≤ k) (h8 : k ≤ 8) :
    Ct Try.prog 10 #[snV s, .int .i64 k] (snF s) (fun y : Ea => .tuple #[.slice y.zo.1 y.os.length y.zo.2, ssV y.sh y.zs, .int .i64 0])
      (eaOk s k) (fun y W => OS y.os y.zo W ∧ SS y.sh y.zs W) := by
  obtain ⟨l1, l2, l3, l4⟩ := formB_all hF
  obtain ⟨vs, zv, cs, zc⟩ := s
  dsimp only at hn l1 l2 l3
  subst hn
  refine Ct.start Try.func10 rfl rfl (slots_of rfl slots2) (fun D w0 => Pw.facts sn2 ?_)
  repeat (first | (with_reducible first | refine Pw.seq ?_ | refine Pw.region ?_ | refine Pw.nil ?_ | refine Pw.then_ ?_ | refine Pw.skip ?_ | refine Pw.block ?_ | refine Pw.exit ?_ | refine Pw.inX ?_ | refine Pw.inN ?_ | refine Pw.inR ?_ | refine Pw.thenX ?_ | refine Pw.thenR ?_ | refine Pw.ret ?_) | refine Pw.list (Pw.pure rfl rfl rfl ?_) | refine Pw.inY rfl ?_ | refine Pw.list (Pw.off rfl rfl ?_) | refine Pw.condT rfl ?_ | refine Pw.condF rfl ?_)
  refine Pw.list (Pw.box rfl rfl rfl rfl (fun g2 => freeHead ?_))
  repeat (first | (with_reducible first | refine Pw.seq ?_ | refine Pw.region ?_ | refine Pw.nil ?_ | refine Pw.then_ ?_ | refine Pw.skip ?_ | refine Pw.block ?_ | refine Pw.exit ?_ | refine Pw.inX ?_ | refine Pw.inN ?_ | refine Pw.inR ?_ | refine Pw.thenX ?_ | refine Pw.thenR ?_ | refine Pw.ret ?_) | refine Pw.list (Pw.pure rfl rfl rfl ?_) | refine Pw.inY rfl ?_ | refine Pw.list (Pw.off rfl rfl ?_) | refine Pw.condT rfl ?_ | refine Pw.condF rfl ?_ | refine Pw.list (Pw.box rfl rfl rfl rfl (fun _ => ?_)) | refine Pw.list (Pw.alloc rfl rfl rfl rfl rfl (fun _ => ?_)) | refine Pw.list (Pw.build rfl rfl rfl rfl ?_) | refine Pw.list (Pw.ld rfl inferInstance rfl rfl rfl ?_) | refine Pw.list (Pw.sto rfl rfl inferInstance rfl rfl rfl rfl rfl inferInstance rfl ?_))
  refine Pw.list (Pw.call (gFormed_ct ⟨[], zv, cs, zc⟩ hW) rfl rfl rfl (by kernel_rfl) rfl rfl (fun w h => ⟨(hv w h), (hv w h)⟩) ?_)
  intro _ _
  rw [hF]
  repeat (first | (with_reducible first | refine Pw.seq ?_ | refine Pw.region ?_ | refine Pw.nil ?_ | refine Pw.then_ ?_ | refine Pw.skip ?_ | refine Pw.block ?_ | refine Pw.exit ?_ | refine Pw.inX ?_ | refine Pw.inN ?_ | refine Pw.inR ?_ | refine Pw.thenX ?_ | refine Pw.thenR ?_ | refine Pw.ret ?_) | refine Pw.list (Pw.pure rfl rfl rfl ?_) | refine Pw.inY rfl ?_ | refine Pw.list (Pw.off rfl rfl ?_) | refine Pw.condT rfl ?_ | refine Pw.condF rfl ?_ | refine Pw.list (Pw.box rfl rfl rfl rfl (fun _ => ?_)) | refine Pw.list (Pw.alloc rfl rfl rfl rfl rfl (fun _ => ?_)) | refine Pw.list (Pw.build rfl rfl rfl rfl ?_) | refine Pw.list (Pw.ld rfl inferInstance rfl rfl rfl ?_) | refine Pw.list (Pw.sto rfl rfl inferInstance rfl rfl rfl rfl rfl inferInstance rfl ?_))
  refine Pw.re (d := 15) (v' := .bool false) rfl (congrArg Value.bool (decide_eq_false (by omega))) ?_
  repeat (first | (with_reducible first | refine Pw.seq ?_ | refine Pw.region ?_ | refine Pw.nil ?_ | refine Pw.then_ ?_ | refine Pw.skip ?_ | refine Pw.block ?_ | refine Pw.exit ?_ | refine Pw.inX ?_ | refine Pw.inN ?_ | refine Pw.inR ?_ | refine Pw.thenX ?_ | refine Pw.thenR ?_ | refine Pw.ret ?_) | refine Pw.list (Pw.pure rfl rfl rfl ?_) | refine Pw.inY rfl ?_ | refine Pw.list (Pw.off rfl rfl ?_) | refine Pw.condT rfl ?_ | refine Pw.condF rfl ?_ | refine Pw.list (Pw.box rfl rfl rfl rfl (fun _ => ?_)) | refine Pw.list (Pw.alloc rfl rfl rfl rfl rfl (fun _ => ?_)) | refine Pw.list (Pw.build rfl rfl rfl rfl ?_) | refine Pw.list (Pw.ld rfl inferInstance rfl rfl rfl ?_) | refine Pw.list (Pw.sto rfl rfl inferInstance rfl rfl rfl rfl rfl inferInstance rfl ?_))
  refine Pw.re (d := 18) (v' := .bool false) rfl (congrArg Value.bool (decide_eq_false (by omega))) ?_
  repeat (first | (with_reducible first | refine Pw.seq ?_ | refine Pw.region ?_ | refine Pw.nil ?_ | refine Pw.then_ ?_ | refine Pw.skip ?_ | refine Pw.block ?_ | refine Pw.exit ?_ | refine Pw.inX ?_ | refine Pw.inN ?_ | refine Pw.inR ?_ | refine Pw.thenX ?_ | refine Pw.thenR ?_ | refine Pw.ret ?_) | refine Pw.list (Pw.pure rfl rfl rfl ?_) | refine Pw.inY rfl ?_ | refine Pw.list (Pw.off rfl rfl ?_) | refine Pw.condT rfl ?_ | refine Pw.condF rfl ?_ | refine Pw.list (Pw.box rfl rfl rfl rfl (fun _ => ?_)) | refine Pw.list (Pw.alloc rfl rfl rfl rfl rfl (fun _ => ?_)) | refine Pw.list (Pw.build rfl rfl rfl rfl ?_) | refine Pw.list (Pw.ld rfl inferInstance rfl rfl rfl ?_) | refine Pw.list (Pw.sto rfl rfl inferInstance rfl rfl rfl rfl rfl inferInstance rfl ?_))
  refine Pw.list (Pw.callB (L0 := []) (newRunner0_ct zv cs zc) rfl rfl rfl rfl (by kernel_rfl) rfl rfl (fun w h => ⟨(hv w h), (hv w h)⟩) ?_)
  rintro ⟨gr, ga, zd⟩ _
  rw [List.append_nil]
  repeat (first | (with_reducible first | refine Pw.seq ?_ | refine Pw.region ?_ | refine Pw.nil ?_ | refine Pw.then_ ?_ | refine Pw.skip ?_ | refine Pw.block ?_ | refine Pw.exit ?_ | refine Pw.inX ?_ | refine Pw.inN ?_ | refine Pw.inR ?_ | refine Pw.thenX ?_ | refine Pw.thenR ?_ | refine Pw.ret ?_) | refine Pw.list (Pw.pure rfl rfl rfl ?_) | refine Pw.inY rfl ?_ | refine Pw.list (Pw.off rfl rfl ?_) | refine Pw.condT rfl ?_ | refine Pw.condF rfl ?_ | refine Pw.list (Pw.box rfl rfl rfl rfl (fun _ => ?_)) | refine Pw.list (Pw.alloc rfl rfl rfl rfl rfl (fun _ => ?_)) | refine Pw.list (Pw.build rfl rfl rfl rfl ?_) | refine Pw.list (Pw.ld rfl inferInstance rfl rfl rfl ?_) | refine Pw.list (Pw.sto rfl rfl inferInstance rfl rfl rfl rfl rfl inferInstance rfl ?_))
  refine Pw.rounds 2 (Pw.round ?_)
  repeat (first | (with_reducible first | refine Pw.seq ?_ | refine Pw.region ?_ | refine Pw.nil ?_ | refine Pw.then_ ?_ | refine Pw.skip ?_ | refine Pw.block ?_ | refine Pw.exit ?_ | refine Pw.inX ?_ | refine Pw.inN ?_ | refine Pw.inR ?_ | refine Pw.thenX ?_ | refine Pw.thenR ?_ | refine Pw.ret ?_) | refine Pw.list (Pw.pure rfl rfl rfl ?_) | refine Pw.inY rfl ?_ | refine Pw.list (Pw.off rfl rfl ?_) | refine Pw.condT rfl ?_ | refine Pw.condF rfl ?_ | refine Pw.list (Pw.box rfl rfl rfl rfl (fun _ => ?_)) | refine Pw.list (Pw.alloc rfl rfl rfl rfl rfl (fun _ => ?_)) | refine Pw.list (Pw.build rfl rfl rfl rfl ?_) | refine Pw.list (Pw.ld rfl inferInstance rfl rfl rfl ?_) | refine Pw.list (Pw.sto rfl rfl inferInstance rfl rfl rfl rfl rfl inferInstance rfl ?_))
  by_cases hk : (0 : Int) < k
  · refine Pw.re (d := 28) (v' := .bool true) rfl (congrArg Value.bool (decide_eq_true hk)) ?_
    repeat (first | (with_reducible first | refine Pw.seq ?_ | refine Pw.region ?_ | refine Pw.nil ?_ | refine Pw.then_ ?_ | refine Pw.skip ?_ | refine Pw.block ?_ | refine Pw.exit ?_ | refine Pw.inX ?_ | refine Pw.inN ?_ | refine Pw.inR ?_ | refine Pw.thenX ?_ | refine Pw.thenR ?_ | refine Pw.ret ?_) | refine Pw.list (Pw.pure rfl rfl rfl ?_) | refine Pw.inY rfl ?_ | refine Pw.list (Pw.off rfl rfl ?_) | refine Pw.condT rfl ?_ | refine Pw.condF rfl ?_ | refine Pw.list (Pw.box rfl rfl rfl rfl (fun _ => ?_)) | refine Pw.list (Pw.alloc rfl rfl rfl rfl rfl (fun _ => ?_)) | refine Pw.list (Pw.build rfl rfl rfl rfl ?_) | refine Pw.list (Pw.ld rfl inferInstance rfl rfl rfl ?_) | refine Pw.list (Pw.sto rfl rfl inferInstance rfl rfl rfl rfl rfl inferInstance rfl ?_))
    refine Pw.list (Pw.callB (L0 := []) (round0_ct zv cs zc gr ga zd l2) (List.append_nil _).symm rfl rfl rfl (by kernel_rfl) rfl rfl (fun w h => (hv w h)) ?_)
    rintro _ _
    rw [List.append_nil]
    repeat (first | (with_reducible first | refine Pw.seq ?_ | refine Pw.region ?_ | refine Pw.nil ?_ | refine Pw.then_ ?_ | refine Pw.skip ?_ | refine Pw.block ?_ | refine Pw.exit ?_ | refine Pw.inX ?_ | refine Pw.inN ?_ | refine Pw.inR ?_ | refine Pw.thenX ?_ | refine Pw.thenR ?_ | refine Pw.ret ?_) | refine Pw.list (Pw.pure rfl rfl rfl ?_) | refine Pw.inY rfl ?_ | refine Pw.list (Pw.off rfl rfl ?_) | refine Pw.condT rfl ?_ | refine Pw.condF rfl ?_ | refine Pw.list (Pw.box rfl rfl rfl rfl (fun _ => ?_)) | refine Pw.list (Pw.alloc rfl rfl rfl rfl rfl (fun _ => ?_)) | refine Pw.list (Pw.build rfl rfl rfl rfl ?_) | refine Pw.list (Pw.ld rfl inferInstance rfl rfl rfl ?_) | refine Pw.list (Pw.sto rfl rfl inferInstance rfl rfl rfl rfl rfl inferInstance rfl ?_))
    refine freeHead ?_
    refine Pw.drawnG mixed rfl rfl ?_
    refine Pw.takeP 0 (nb 9 1) rfl rfl rfl rfl (by kernel_rfl) np sf ?_
    refine Pw.takeP 1 (nb 9 3) rfl rfl rfl rfl (by kernel_rfl) np sf ?_
    refine Pw.takeP 2 (nb 9 7) rfl rfl rfl rfl (by kernel_rfl) np sf ?_
    refine Pw.takeF 3 (nb 9 15) rfl rfl inferInstance rfl rfl rfl (by kernel_rfl) np sf ?_
    refine Pw.takeP 4 (nb 9 31) rfl rfl rfl rfl (by kernel_rfl) np sf ?_
    refine Pw.one 5 (nb 9 63) rfl (by kernel_rfl) ?_
    -- call Op.call { callee := Callee.value (Operand.func 28), args := #[Operand.tmp 36], argTypes := #[69] }
    refine Pw.call (shares0_ct zv cs zc gr ga zd) rfl rfl rfl (by kernel_rfl) rfl rfl (fun w h => (by first | exact fact0 (h) | exact fact0 (allTail (h)) | exact fact0 (allTail (allTail (h))) | exact fact0 (allTail (allTail (allTail (h)))) | exact fact0 (allTail (allTail (allTail (allTail (h))))) | exact fact0 (allTail (allTail (allTail (allTail (allTail (h)))))) | exact fact0 (allTail (allTail (allTail (allTail (allTail (allTail (h))))))) | exact fact0 (allTail (allTail (allTail (allTail (allTail (allTail (allTail (h)))))))) | exact fact0 (allTail (allTail (allTail (allTail (allTail (allTail (allTail (allTail (h))))))))) | exact fact0 (allTail (allTail (allTail (allTail (allTail (allTail (allTail (allTail (allTail (h)))))))))))) ?_
    intro _ _
    refine Pw.held sf ?_
    refine Pw.takeP 6 (nb 9 127) rfl rfl rfl rfl (by kernel_rfl) np sf ?_
    refine Pw.takeP 7 (nb 9 255) rfl rfl rfl rfl (by kernel_rfl) np sf ?_
    refine Pw.takeP 8 (nb 9 511) rfl rfl rfl rfl (by kernel_rfl) np sf ?_
    refine Pw.done (by kernel_rfl) ?_
    repeat (first | (with_reducible first | refine Pw.seq ?_ | refine Pw.region ?_ | refine Pw.nil ?_ | refine Pw.then_ ?_ | refine Pw.skip ?_ | refine Pw.block ?_ | refine Pw.exit ?_ | refine Pw.inX ?_ | refine Pw.inN ?_ | refine Pw.inR ?_ | refine Pw.thenX ?_ | refine Pw.thenR ?_ | refine Pw.ret ?_) | refine Pw.list (Pw.pure rfl rfl rfl ?_) | refine Pw.inY rfl ?_ | refine Pw.list (Pw.off rfl rfl ?_) | refine Pw.condT rfl ?_ | refine Pw.condF rfl ?_ | refine Pw.list (Pw.box rfl rfl rfl rfl (fun _ => ?_)) | refine Pw.list (Pw.alloc rfl rfl rfl rfl rfl (fun _ => ?_)) | refine Pw.list (Pw.build rfl rfl rfl rfl ?_) | refine Pw.list (Pw.ld rfl inferInstance rfl rfl rfl ?_) | refine Pw.list (Pw.sto rfl rfl inferInstance rfl rfl rfl rfl rfl inferInstance rfl ?_))
    exact Pw.ret_ (x := ⟨[], (none, 0), [], (none, 0)⟩) (.tmp rfl (.tmp rfl (.tmp rfl .nil))) rfl ⟨by rw [elect_nil]; rfl, by rw [elect_nil]; rfl⟩ (fun w h => ⟨Rows.nil _ _ _ _ _, Rows.nil _ _ _ _ _⟩)
  · refine Pw.re (d := 28) (v' := .bool false) rfl (congrArg Value.bool (decide_eq_false hk)) ?_
    repeat (first | (with_reducible first | refine Pw.seq ?_ | refine Pw.region ?_ | refine Pw.nil ?_ | refine Pw.then_ ?_ | refine Pw.skip ?_ | refine Pw.block ?_ | refine Pw.exit ?_ | refine Pw.inX ?_ | refine Pw.inN ?_ | refine Pw.inR ?_ | refine Pw.thenX ?_ | refine Pw.thenR ?_ | refine Pw.ret ?_) | refine Pw.list (Pw.pure rfl rfl rfl ?_) | refine Pw.inY rfl ?_ | refine Pw.list (Pw.off rfl rfl ?_) | refine Pw.condT rfl ?_ | refine Pw.condF rfl ?_ | refine Pw.list (Pw.box rfl rfl rfl rfl (fun _ => ?_)) | refine Pw.list (Pw.alloc rfl rfl rfl rfl rfl (fun _ => ?_)) | refine Pw.list (Pw.build rfl rfl rfl rfl ?_) | refine Pw.list (Pw.ld rfl inferInstance rfl rfl rfl ?_) | refine Pw.list (Pw.sto rfl rfl inferInstance rfl rfl rfl rfl rfl inferInstance rfl ?_))
    refine freeHead ?_
    refine Pw.drawnG mixed rfl rfl ?_
    refine Pw.takeP 0 (nb 9 1) rfl rfl rfl rfl (by kernel_rfl) np sf ?_
    refine Pw.takeP 1 (nb 9 3) rfl rfl rfl rfl (by kernel_rfl) np sf ?_
    refine Pw.takeP 2 (nb 9 7) rfl rfl rfl rfl (by kernel_rfl) np sf ?_
    refine Pw.takeF 3 (nb 9 15) rfl rfl inferInstance rfl rfl rfl (by kernel_rfl) np sf ?_
    refine Pw.takeP 4 (nb 9 31) rfl rfl rfl rfl (by kernel_rfl) np sf ?_
    refine Pw.one 5 (nb 9 63) rfl (by kernel_rfl) ?_
    -- call Op.call { callee := Callee.value (Operand.func 28), args := #[Operand.tmp 36], argTypes := #[69] }
    refine Pw.call (shares0_ct zv cs zc gr ga zd) rfl rfl rfl (by kernel_rfl) rfl rfl (fun w h => (by first | exact fact0 (h) | exact fact0 (allTail (h)) | exact fact0 (allTail (allTail (h))) | exact fact0 (allTail (allTail (allTail (h)))) | exact fact0 (allTail (allTail (allTail (allTail (h))))) | exact fact0 (allTail (allTail (allTail (allTail (allTail (h)))))) | exact fact0 (allTail (allTail (allTail (allTail (allTail (allTail (h))))))) | exact fact0 (allTail (allTail (allTail (allTail (allTail (allTail (allTail (h)))))))) | exact fact0 (allTail (allTail (allTail (allTail (allTail (allTail (allTail (allTail (h))))))))) | exact fact0 (allTail (allTail (allTail (allTail (allTail (allTail (allTail (allTail (allTail (h)))))))))))) ?_
    intro _ _
    refine Pw.held sf ?_
    refine Pw.takeP 6 (nb 9 127) rfl rfl rfl rfl (by kernel_rfl) np sf ?_
    refine Pw.takeP 7 (nb 9 255) rfl rfl rfl rfl (by kernel_rfl) np sf ?_
    refine Pw.takeP 8 (nb 9 511) rfl rfl rfl rfl (by kernel_rfl) np sf ?_
    refine Pw.done (by kernel_rfl) ?_
    repeat (first | (with_reducible first | refine Pw.seq ?_ | refine Pw.region ?_ | refine Pw.nil ?_ | refine Pw.then_ ?_ | refine Pw.skip ?_ | refine Pw.block ?_ | refine Pw.exit ?_ | refine Pw.inX ?_ | refine Pw.inN ?_ | refine Pw.inR ?_ | refine Pw.thenX ?_ | refine Pw.thenR ?_ | refine Pw.ret ?_) | refine Pw.list (Pw.pure rfl rfl rfl ?_) | refine Pw.inY rfl ?_ | refine Pw.list (Pw.off rfl rfl ?_) | refine Pw.condT rfl ?_ | refine Pw.condF rfl ?_ | refine Pw.list (Pw.box rfl rfl rfl rfl (fun _ => ?_)) | refine Pw.list (Pw.alloc rfl rfl rfl rfl rfl (fun _ => ?_)) | refine Pw.list (Pw.build rfl rfl rfl rfl ?_) | refine Pw.list (Pw.ld rfl inferInstance rfl rfl rfl ?_) | refine Pw.list (Pw.sto rfl rfl inferInstance rfl rfl rfl rfl rfl inferInstance rfl ?_))
    exact Pw.ret_ (x := ⟨[], (none, 0), [], (none, 0)⟩) (.tmp rfl (.tmp rfl (.tmp rfl .nil))) rfl ⟨by rw [elect_nil]; rfl, by rw [elect_nil]; rfl⟩ (fun w h => ⟨Rows.nil _ _ _ _ _, Rows.nil _ _ _ _ _⟩)
/-- Of any formed snapshot. -/
theorem ElectF_ct (s : Sn) (k : Int) (hW : snW s) (hF : formB s = true) (h0 : 0 ≤ k) (h8 : k ≤ 8) :
    Ct Try.prog 10 #[snV s, .int .i64 k] (snF s) (fun y : Ea => .tuple #[.slice y.zo.1 y.os.length y.zo.2, ssV y.sh y.zs, .int .i64 0])
      (eaOk s k) (fun y W => OS y.os y.zo W ∧ SS y.sh y.zs W) := by
  by_cases hn : s.vs = []
  · exact Elect0_ct s k hW hF hn h0 h8
  · exact ElectN_ct s k hW hF hn h0 h8
end Go.Proofs.Wk
/- Elections: a voter more that gives nothing (plain). -/
namespace Go.Proofs.Wk
open Go.RowKit
set_option linter.unusedVariables false
set_option linter.unusedSimpArgs false
theorem st_ext {vs : List Vtr} {v : Vtr} {i : Nat} (h : i < vs.length) : st (vs ++ [v]) i = st vs i := by
  unfold st; rw [List.getElem?_append_left h]
theorem pks_ext {vs : List Vtr} {v : Vtr} {i : Nat} (h : i < vs.length) : pks (vs ++ [v]) i = pks vs i := by
  unfold pks; rw [List.getElem?_append_left h]
theorem ap_ext {vs : List Vtr} {v : Vtr} {c : Int} (h : v.st ≤ 0 ∨ c ∉ v.pk) : ap (vs ++ [v]) c = ap vs c := by
  unfold ap
  rw [List.length_append, List.length_singleton, List.range_succ, List.filter_append]
  have h1 : [vs.length].filter (fun i => decide (0 < st (vs ++ [v]) i) && decide (c ∈ pks (vs ++ [v]) i)) = [] := by
    rw [List.filter_eq_nil_iff]
    intro i hi
    rw [List.mem_singleton.1 hi]
    unfold st pks
    rw [List.getElem?_append_right (Nat.le_refl _), Nat.sub_self]
    show ¬ (decide (0 < v.st) && decide (c ∈ v.pk)) = true
    rw [Bool.and_eq_true, decide_eq_true_eq, decide_eq_true_eq]
    rintro ⟨h2, h3⟩
    rcases h with h | h
    · omega
    · exact h h3
  rw [h1, List.append_nil]
  refine List.filter_congr fun i hi => ?_
  have hi := List.mem_range.1 hi
  rw [st_ext hi, pks_ext hi]
theorem at0_ext (ld : List Int) (i : Nat) : at0 (ld ++ [0]) i = at0 ld i := by
  unfold at0
  rcases Nat.lt_or_ge i ld.length with h | h
  · rw [List.getElem?_append_left h]
  · rw [List.getElem?_append_right h, List.getElem?_eq_none h]
    cases hj : i - ld.length with
    | zero => rfl
    | succ j => rfl
theorem sumL_congr {f g : Nat → Int} {l : List Nat} (h : ∀ i ∈ l, f i = g i) : sumL f l = sumL g l := by
  unfold sumL; rw [List.map_congr_left h]
theorem scN_ext {vs : List Vtr} {v : Vtr} {D : Int} {ld : List Int} {l : List Nat} (h : ∀ i ∈ l, i < vs.length) : scN D (vs ++ [v]) (ld ++ [0]) l = scN D vs ld l := by
  unfold scN; rw [sumL_congr (g := fun i => at0 ld i * st vs i) (fun i hi => by rw [at0_ext, st_ext (h i hi)])]
theorem scT_ext {vs : List Vtr} {v : Vtr} {l : List Nat} (h : ∀ i ∈ l, i < vs.length) : scT (vs ++ [v]) l = scT vs l := by
  unfold scT; exact sumL_congr (fun i hi => st_ext (h i hi))
def extE (S : Est) : Est := ⟨S.D, S.ld ++ [0], S.ed ++ [[]], S.se⟩
theorem ap_lt {vs : List Vtr} {c : Int} : ∀ i ∈ ap vs c, i < vs.length := fun i hi => (ap_mem.1 hi).1
theorem seek_ext {vs : List Vtr} {v : Vtr} {S : Est} {c : Int} (h : v.st ≤ 0 ∨ c ∉ v.pk) (b : Bs) : seek (vs ++ [v]) (extE S) b c = seek vs S b c := by
  have e1 := ap_ext (vs := vs) h
  unfold seek elig
  rw [e1]
  show (if (!(ap vs c).isEmpty && !(S.se.any fun x => decide (x.1 = c))) = true then if better b (scN S.D (vs ++ [v]) (S.ld ++ [0]) (ap vs c)) (scT (vs ++ [v]) (ap vs c)) = true then some (c, scN S.D (vs ++ [v]) (S.ld ++ [0]) (ap vs c), scT (vs ++ [v]) (ap vs c)) else b else b) = _
  rw [scN_ext ap_lt, scT_ext ap_lt]
theorem best_ext {vs : List Vtr} {v : Vtr} {S : Est} {cs : List Int} (h : ∀ c ∈ cs, v.st ≤ 0 ∨ c ∉ v.pk) : best (vs ++ [v]) (extE S) cs = best vs S cs := by
  unfold best
  have key : ∀ (l : List Int) (b : Bs), (∀ c ∈ l, c ∈ cs) → l.foldl (seek (vs ++ [v]) (extE S)) b = l.foldl (seek vs S) b := by
    intro l
    induction l with
    | nil => exact fun b _ => rfl
    | cons c l ih =>
      intro b hl
      rw [List.foldl_cons, List.foldl_cons, seek_ext (h c (hl c (List.mem_cons_self ..)))]
      exact ih _ (fun d hd => hl d (List.mem_cons_of_mem _ hd))
  exact key cs none (fun c hc => hc)
theorem loadTo_ext {l : List Nat} {v : Int} {ld : List Int} (h : ld.length ∉ l) : loadTo l v (ld ++ [0]) = loadTo l v ld ++ [0] := by
  unfold loadTo
  rw [List.zipIdx_append, List.map_append]
  simp [h]
theorem giveTo_ext {l : List Nat} {c v D : Int} {ld : List Int} {ed : List (List (Int × Int × Int))} (h : ed.length ∉ l) : giveTo l c v D (ld ++ [0]) (ed ++ [[]]) = giveTo l c v D ld ed ++ [[]] := by
  unfold giveTo
  rw [List.zipIdx_append, List.map_append]
  simp only [at0_ext]
  simp [h]
theorem next_ext {vs : List Vtr} {v : Vtr} {S : Est} {c : Int} (hc : v.st ≤ 0 ∨ c ∉ v.pk) (l1 : S.ld.length = vs.length) (l2 : S.ed.length = vs.length) (p q : Int) : nextE (vs ++ [v]) (extE S) c p q = extE (nextE vs S c p q) := by
  have h1 : vs.length ∉ ap vs c := fun h => Nat.lt_irrefl _ (ap_lt _ h)
  have e0 : (S.ld ++ [0]).map (· * q) = S.ld.map (· * q) ++ [0] := by simp
  unfold nextE
  rw [ap_ext hc]
  show Est.mk (S.D * q) (loadTo (ap vs c) p ((S.ld ++ [0]).map (· * q))) (giveTo (ap vs c) c p (S.D * q) ((S.ld ++ [0]).map (· * q)) (S.ed ++ [[]])) (S.se ++ [(c, p, S.D * q)]) = _
  rw [e0, loadTo_ext (by rw [List.length_map, l1]; exact h1), giveTo_ext (by rw [l2]; exact h1)]
  rfl
theorem rnd_ext {vs : List Vtr} {v : Vtr} {S : Est} {cs : List Int} (h : ∀ c ∈ cs, v.st ≤ 0 ∨ c ∉ v.pk) (l1 : S.ld.length = vs.length) (l2 : S.ed.length = vs.length) : rnd (vs ++ [v]) cs (extE S) = (rnd vs cs S).map extE := by
  unfold rnd
  rw [best_ext h]
  cases hb : best vs S cs with
  | none => rfl
  | some b => simp only [Option.map_some]; rw [next_ext (h b.1 (best_ok hb).1) l1 l2]
theorem run_ext {vs : List Vtr} {v : Vtr} {cs : List Int} (hV : VOk vs) (h : ∀ c ∈ cs, v.st ≤ 0 ∨ c ∉ v.pk) : ∀ (k a : Nat) (S : Est), EOk vs a S → runE (vs ++ [v]) cs k (extE S) = extE (runE vs cs k S)
  | 0, a, S, _ => rfl
  | k + 1, a, S, hS => by
    unfold runE
    rw [rnd_ext h hS.ll hS.el]
    cases hr : rnd vs cs S with
    | none => rfl
    | some S' => exact run_ext hV h k (a + 3) S' (rnd_ok hV hS hr)
theorem elect_ext {vs : List Vtr} {v : Vtr} {cs : List Int} (hV : VOk vs) (h : ∀ c ∈ cs, v.st ≤ 0 ∨ c ∉ v.pk) (k : Nat) : electE (vs ++ [v]) cs k = extE (electE vs cs k) := by
  unfold electE
  rw [← run_ext hV h k 1 (begE vs) (beg_ok vs)]
  congr 1
  unfold begE extE
  simp
theorem run_ok {vs : List Vtr} (hV : VOk vs) {cs : List Int} : ∀ (k a : Nat) (S : Est), EOk vs a S → EOk vs (a + 3 * k) (runE vs cs k S)
  | 0, a, S, h => h
  | k + 1, a, S, h => by
    unfold runE
    cases hr : rnd vs cs S with
    | none =>
      have up : ∀ {x : Int}, x < pw a → x < pw (a + 3 * (k + 1)) := fun hx => lt_pw_le hx (by omega)
      exact ⟨h.d0, up h.d1, h.ll, fun x hx => ⟨(h.l0 x hx).1, up (h.l0 x hx).2⟩, h.el, fun i l hl => ⟨fun x hx => by
        obtain ⟨q1, q2, q3, q4⟩ := (h.e0 i l hl).1 x hx
        exact ⟨q1, up q2, q3, up q4⟩, (h.e0 i l hl).2⟩, fun x hx => by
        obtain ⟨q1, q2, q3, q4⟩ := h.s0 x hx
        exact ⟨q1, up q2, q3, up q4⟩, h.k0⟩
    | some S' =>
      have := run_ok hV (cs := cs) k (a + 3) S' (rnd_ok hV h hr)
      rwa [show a + 3 + 3 * k = a + 3 * (k + 1) by omega] at this
theorem elect_ok {vs : List Vtr} (hV : VOk vs) (cs : List Int) (k : Nat) : EOk vs (1 + 3 * k) (electE vs cs k) := run_ok hV k 1 _ (beg_ok vs)
theorem shRow_ext {vs : List Vtr} {v : Vtr} {S : Est} {cs : List Int} (l2 : S.ed.length = vs.length) {i : Nat} (h : i < vs.length) : shRow (vs ++ [v]) (extE S) cs i = shRow vs S cs i := by
  have e1 : shOne (vs ++ [v]) (extE S) i = shOne vs S i := by
    funext c
    unfold shOne shareOf vid
    rw [List.getElem?_append_left h, st_ext h]
    show Option.map _ (Option.map _ (edgeOf (((S.ed ++ [[]])[i]?).getD []) c)) = _
    rw [List.getElem?_append_left (by omega)]
    show Option.map _ (Option.map (fun x : Int × Int => Rat.divInt (x.1 * st vs i * S.D) (x.2 * at0 (S.ld ++ [0]) i)) _) = _
    rw [at0_ext]
  unfold shRow; rw [e1]
theorem shRow_last {vs : List Vtr} {v : Vtr} {S : Est} {cs : List Int} (l2 : S.ed.length = vs.length) : shRow (vs ++ [v]) (extE S) cs vs.length = [] := by
  unfold shRow
  rw [List.filterMap_eq_nil_iff]
  intro c _
  unfold shOne shareOf
  show Option.map _ (Option.map _ (edgeOf (((S.ed ++ [[]])[vs.length]?).getD []) c)) = none
  rw [List.getElem?_append_right (by omega), l2, Nat.sub_self]
  rfl
theorem shTo_ext {vs : List Vtr} {v : Vtr} {S : Est} {cs : List Int} (l2 : S.ed.length = vs.length) : shTo (vs ++ [v]) cs (extE S) (vs.length + 1) = shTo vs cs S vs.length := by
  rw [shTo_succ, shRow_last l2, List.append_nil]
  unfold shTo
  rw [List.flatMap_def, List.flatMap_def, List.map_congr_left (g := shRow vs S cs) (fun i hi => shRow_ext l2 (List.mem_range.1 hi))]
end Go.Proofs.Wk
/- Money: sums. -/
namespace Go.Proofs.Wk
open Go.RowKit
set_option maxRecDepth 100000
set_option maxHeartbeats 1000000
attribute [local irreducible] Pw OpG
set_option linter.unusedVariables false
set_option linter.unusedSimpArgs false
def U64 (n : Int) : Prop := 0 ≤ n ∧ n ≤ 18446744073709551615
def lsum : List Int → Int
  | [] => 0
  | n :: r => n + lsum r
theorem lsum_append (a b : List Int) : lsum (a ++ b) = lsum a + lsum b := by
  induction a with
  | nil => simp [lsum]
  | cons x r ih => simp only [List.cons_append, lsum, ih]; omega
theorem lsum_snoc (a : List Int) (n : Int) : lsum (a ++ [n]) = lsum a + n := by rw [lsum_append]; simp [lsum]
theorem lsum_nonneg {l : List Int} (h : ∀ n ∈ l, U64 n) : 0 ≤ lsum l := by
  induction l with
  | nil => simp [lsum]
  | cons x r ih =>
    have h1 := (h x (List.mem_cons_self ..)).1
    have h2 := ih (fun v hv => h v (List.mem_cons_of_mem _ hv))
    simp only [lsum]; omega
theorem lsum_take_le {l : List Int} (h : ∀ n ∈ l, U64 n) (k : Nat) : lsum (l.take k) ≤ lsum l := by
  have e : l = l.take k ++ l.drop k := (List.take_append_drop k l).symm
  have h2 := lsum_nonneg (l := l.drop k) (fun n hn => h n (List.mem_of_mem_drop hn))
  have h3 : lsum l = lsum (l.take k) + lsum (l.drop k) := by rw [← lsum_append, List.take_append_drop]
  omega
def sumM (l : List Int) : Int × Int := if lsum l ≤ 18446744073709551615 then (lsum l, 0) else (0, 3)
abbrev U1 (l : List Int) (x : Option Addr × Nat) : World → Prop := Ints .u64 l x.1 x.2
def addR (a b : Int) : Int × Int := if a + b ≤ 18446744073709551615 then (a + b, 0) else (0, 3)
theorem rAdd_ct (a b : Int) (ha : U64 a) (hb : U64 b) : Ct Try.prog 46 #[.int .u64 a, .int .u64 b] (fun _ => True) (fun _ : Unit => .tuple #[.int .u64 (addR a b).1, .int .i64 (addR a b).2]) Tt (fun _ _ => True) := by
  unfold U64 at ha hb
  refine Ct.start Try.func46 rfl rfl (slots_of rfl slots2) (fun D w0 => ?_)
  repeat (first | (with_reducible first | refine Pw.seq ?_ | refine Pw.region ?_ | refine Pw.nil ?_ | refine Pw.then_ ?_ | refine Pw.skip ?_ | refine Pw.block ?_ | refine Pw.exit ?_ | refine Pw.inX ?_ | refine Pw.inN ?_ | refine Pw.inR ?_ | refine Pw.thenX ?_ | refine Pw.thenR ?_ | refine Pw.ret ?_) | refine Pw.list (Pw.pure rfl rfl rfl ?_) | refine Pw.inY rfl ?_ | refine Pw.list (Pw.off rfl rfl ?_) | refine Pw.condT rfl ?_ | refine Pw.condF rfl ?_ | refine Pw.list (Pw.box rfl rfl rfl rfl (fun _ => ?_)) | refine Pw.list (Pw.alloc rfl rfl rfl rfl rfl (fun _ => ?_)) | refine Pw.list (Pw.build rfl rfl rfl rfl ?_) | refine Pw.list (Pw.ld rfl inferInstance rfl rfl rfl ?_) | refine Pw.list (Pw.sto rfl rfl inferInstance rfl rfl rfl rfl rfl inferInstance rfl ?_))
  refine Pw.condD rfl (fun c => ?_) (fun c => ?_)
  · rw [wu64] at c
    repeat (first | (with_reducible first | refine Pw.seq ?_ | refine Pw.region ?_ | refine Pw.nil ?_ | refine Pw.then_ ?_ | refine Pw.skip ?_ | refine Pw.block ?_ | refine Pw.exit ?_ | refine Pw.inX ?_ | refine Pw.inN ?_ | refine Pw.inR ?_ | refine Pw.thenX ?_ | refine Pw.thenR ?_ | refine Pw.ret ?_) | refine Pw.list (Pw.pure rfl rfl rfl ?_) | refine Pw.inY rfl ?_ | refine Pw.list (Pw.off rfl rfl ?_) | refine Pw.condT rfl ?_ | refine Pw.condF rfl ?_ | refine Pw.list (Pw.box rfl rfl rfl rfl (fun _ => ?_)) | refine Pw.list (Pw.alloc rfl rfl rfl rfl rfl (fun _ => ?_)) | refine Pw.list (Pw.build rfl rfl rfl rfl ?_) | refine Pw.list (Pw.ld rfl inferInstance rfl rfl rfl ?_) | refine Pw.list (Pw.sto rfl rfl inferInstance rfl rfl rfl rfl rfl inferInstance rfl ?_))
    exact Pw.ret_ (x := ()) (.tmp rfl (.tmp rfl .nil)) (by unfold addR; rw [if_neg (by omega)]; rfl) trivial (fun w h => by trivial)
  · rw [wu64] at c
    repeat (first | (with_reducible first | refine Pw.seq ?_ | refine Pw.region ?_ | refine Pw.nil ?_ | refine Pw.then_ ?_ | refine Pw.skip ?_ | refine Pw.block ?_ | refine Pw.exit ?_ | refine Pw.inX ?_ | refine Pw.inN ?_ | refine Pw.inR ?_ | refine Pw.thenX ?_ | refine Pw.thenR ?_ | refine Pw.ret ?_) | refine Pw.list (Pw.pure rfl rfl rfl ?_) | refine Pw.inY rfl ?_ | refine Pw.list (Pw.off rfl rfl ?_) | refine Pw.condT rfl ?_ | refine Pw.condF rfl ?_ | refine Pw.list (Pw.box rfl rfl rfl rfl (fun _ => ?_)) | refine Pw.list (Pw.alloc rfl rfl rfl rfl rfl (fun _ => ?_)) | refine Pw.list (Pw.build rfl rfl rfl rfl ?_) | refine Pw.list (Pw.ld rfl inferInstance rfl rfl rfl ?_) | refine Pw.list (Pw.sto rfl rfl inferInstance rfl rfl rfl rfl rfl inferInstance rfl ?_))
    refine Pw.re (d := 4) (v' := .int .u64 (a + b)) rfl (congrArg (Value.int .u64) (wu (by omega) (by omega))) ?_
    exact Pw.ret_ (x := ()) (.tmp rfl (.tmp rfl .nil)) (by unfold addR; rw [if_pos (by omega)]; rfl) trivial (fun w h => by trivial)
theorem rSum_ct (l : List Int) (x : Option Addr × Nat) (hb : ∀ n ∈ l, U64 n) : Ct Try.prog 24 #[sl l x] (U1 l x) (fun _ : Unit => .tuple #[.int .u64 (sumM l).1, .int .i64 (sumM l).2]) Tt (fun _ _ => True) := by
  obtain ⟨A, c⟩ := x
  refine Ct.start Try.func24 rfl rfl (slots_of rfl slots1) (fun D w0 => ?_)
  refine Pw.use (p := l.length ≤ maxLen) (fun w h => (fact0 h).top) (fun htop => ?_)
  have htop := top63 htop
  repeat (first | (with_reducible first | refine Pw.seq ?_ | refine Pw.region ?_ | refine Pw.nil ?_ | refine Pw.then_ ?_ | refine Pw.skip ?_ | refine Pw.block ?_ | refine Pw.exit ?_ | refine Pw.inX ?_ | refine Pw.inN ?_ | refine Pw.inR ?_ | refine Pw.thenX ?_ | refine Pw.thenR ?_ | refine Pw.ret ?_) | refine Pw.list (Pw.pure rfl rfl rfl ?_) | refine Pw.inY rfl ?_ | refine Pw.list (Pw.off rfl rfl ?_) | refine Pw.condT rfl ?_ | refine Pw.condF rfl ?_)
  refine Pw.loopJ (σ := Nat) (fun i => i ≤ l.length ∧ lsum (l.take i) ≤ 18446744073709551615) (fun i => ⟨[(0, .slice A l.length c), (4, .int .u64 (lsum (l.take i))), (9, .int .i64 l.length), (10, .int .i64 i)], [], [Ints .u64 l A c]⟩) (fun i => l.length - i) 0 ⟨Nat.zero_le _, by simp [lsum]⟩ (Pw.enter ⟨rfl, rfl, rfl, rfl, trivial⟩ (fun _ h => h)) ?_
  rintro i ⟨hi, hs⟩
  dsimp only at hi hs ⊢
  repeat (first | (with_reducible first | refine Pw.seq ?_ | refine Pw.region ?_ | refine Pw.nil ?_ | refine Pw.then_ ?_ | refine Pw.skip ?_ | refine Pw.block ?_ | refine Pw.exit ?_ | refine Pw.inX ?_ | refine Pw.inN ?_ | refine Pw.inR ?_ | refine Pw.thenX ?_ | refine Pw.thenR ?_ | refine Pw.ret ?_) | refine Pw.list (Pw.pure rfl rfl rfl ?_) | refine Pw.inY rfl ?_ | refine Pw.list (Pw.off rfl rfl ?_) | refine Pw.condT rfl ?_ | refine Pw.condF rfl ?_)
  refine Pw.condD rfl (fun c3 => ?_) (fun c3 => ?_)
  · obtain ⟨y, hy, hm⟩ := get_at (show i < l.length by omega)
    have hyb := hb y hm
    have h0 := lsum_nonneg (l := l.take i) (fun n hn => hb n (List.mem_of_mem_take hn))
    have e1 : lsum (l.take (i + 1)) = lsum (l.take i) + y := by rw [take_snoc hy, lsum_snoc]
    repeat (first | (with_reducible first | refine Pw.seq ?_ | refine Pw.region ?_ | refine Pw.nil ?_ | refine Pw.then_ ?_ | refine Pw.skip ?_ | refine Pw.block ?_ | refine Pw.exit ?_ | refine Pw.inX ?_ | refine Pw.inN ?_ | refine Pw.inR ?_ | refine Pw.thenX ?_ | refine Pw.thenR ?_ | refine Pw.ret ?_) | refine Pw.list (Pw.pure rfl rfl rfl ?_) | refine Pw.inY rfl ?_ | refine Pw.list (Pw.off rfl rfl ?_) | refine Pw.condT rfl ?_ | refine Pw.condF rfl ?_)
    refine Pw.list (Pw.index rfl rfl rfl rfl (Int.natCast_nonneg i) c3 (fun w h => (fact0 h).has (Int.natCast_nonneg i) c3) rfl rfl ?_)
    rintro ad rfl
    refine Pw.list (Pw.load1 rfl rfl (fun w hs => by first | exact (fact0 hs.all).cell (by first | assumption | omega) (by first | assumption | omega) | exact (fact1 hs.all).cell (by first | assumption | omega) (by first | assumption | omega) | exact (fact2 hs.all).cell (by first | assumption | omega) (by first | assumption | omega) | exact (fact3 hs.all).cell (by first | assumption | omega) (by first | assumption | omega)) rfl rfl ?_)
    rw [get_rd hy]
    repeat (first | (with_reducible first | refine Pw.seq ?_ | refine Pw.region ?_ | refine Pw.nil ?_ | refine Pw.then_ ?_ | refine Pw.skip ?_ | refine Pw.block ?_ | refine Pw.exit ?_ | refine Pw.inX ?_ | refine Pw.inN ?_ | refine Pw.inR ?_ | refine Pw.thenX ?_ | refine Pw.thenR ?_ | refine Pw.ret ?_) | refine Pw.list (Pw.pure rfl rfl rfl ?_) | refine Pw.inY rfl ?_ | refine Pw.list (Pw.off rfl rfl ?_) | refine Pw.condT rfl ?_ | refine Pw.condF rfl ?_)
    refine Pw.list (Pw.call (rAdd_ct (lsum (l.take i)) y ⟨h0, hs⟩ hyb) rfl rfl rfl (by kernel_rfl) rfl rfl (fun w h => trivial) ?_)
    intro _ _
    by_cases h1 : lsum (l.take i) + y ≤ 18446744073709551615
    · have ea : addR (lsum (l.take i)) y = (lsum (l.take (i + 1)), 0) := by unfold addR; rw [if_pos h1, e1]
      rw [ea]
      repeat (first | (with_reducible first | refine Pw.seq ?_ | refine Pw.region ?_ | refine Pw.nil ?_ | refine Pw.then_ ?_ | refine Pw.skip ?_ | refine Pw.block ?_ | refine Pw.exit ?_ | refine Pw.inX ?_ | refine Pw.inN ?_ | refine Pw.inR ?_ | refine Pw.thenX ?_ | refine Pw.thenR ?_ | refine Pw.ret ?_) | refine Pw.list (Pw.pure rfl rfl rfl ?_) | refine Pw.inY rfl ?_ | refine Pw.list (Pw.off rfl rfl ?_) | refine Pw.condT rfl ?_ | refine Pw.condF rfl ?_ | refine Pw.list (Pw.box rfl rfl rfl rfl (fun _ => ?_)) | refine Pw.list (Pw.alloc rfl rfl rfl rfl rfl (fun _ => ?_)) | refine Pw.list (Pw.build rfl rfl rfl rfl ?_) | refine Pw.list (Pw.ld rfl inferInstance rfl rfl rfl ?_) | refine Pw.list (Pw.sto rfl rfl inferInstance rfl rfl rfl rfl rfl inferInstance rfl ?_))
      refine Pw.re (d := 10) (v' := .int .i64 ((i + 1 : Nat) : Int)) rfl (congrArg (Value.int .i64) (i64s (by omega) htop)) ?_
      exact Pw.again (i + 1) ⟨by omega, by omega⟩ (by show l.length - (i + 1) < l.length - i; omega) ⟨rfl, rfl, rfl, rfl, trivial⟩ rfl (fun w h => allTail h)
    · have ea : addR (lsum (l.take i)) y = (0, 3) := by unfold addR; rw [if_neg h1]
      rw [ea]
      have h2 := lsum_take_le hb (i + 1)
      repeat (first | (with_reducible first | refine Pw.seq ?_ | refine Pw.region ?_ | refine Pw.nil ?_ | refine Pw.then_ ?_ | refine Pw.skip ?_ | refine Pw.block ?_ | refine Pw.exit ?_ | refine Pw.inX ?_ | refine Pw.inN ?_ | refine Pw.inR ?_ | refine Pw.thenX ?_ | refine Pw.thenR ?_ | refine Pw.ret ?_) | refine Pw.list (Pw.pure rfl rfl rfl ?_) | refine Pw.inY rfl ?_ | refine Pw.list (Pw.off rfl rfl ?_) | refine Pw.condT rfl ?_ | refine Pw.condF rfl ?_ | refine Pw.list (Pw.box rfl rfl rfl rfl (fun _ => ?_)) | refine Pw.list (Pw.alloc rfl rfl rfl rfl rfl (fun _ => ?_)) | refine Pw.list (Pw.build rfl rfl rfl rfl ?_) | refine Pw.list (Pw.ld rfl inferInstance rfl rfl rfl ?_) | refine Pw.list (Pw.sto rfl rfl inferInstance rfl rfl rfl rfl rfl inferInstance rfl ?_))
      exact Pw.ret_ (x := ()) (.tmp rfl (.tmp rfl .nil)) (by unfold sumM; rw [if_neg (by omega)]; rfl) trivial (fun w h => by trivial)
  · repeat (first | (with_reducible first | refine Pw.seq ?_ | refine Pw.region ?_ | refine Pw.nil ?_ | refine Pw.then_ ?_ | refine Pw.skip ?_ | refine Pw.block ?_ | refine Pw.exit ?_ | refine Pw.inX ?_ | refine Pw.inN ?_ | refine Pw.inR ?_ | refine Pw.thenX ?_ | refine Pw.thenR ?_ | refine Pw.ret ?_) | refine Pw.list (Pw.pure rfl rfl rfl ?_) | refine Pw.inY rfl ?_ | refine Pw.list (Pw.off rfl rfl ?_) | refine Pw.condT rfl ?_ | refine Pw.condF rfl ?_)
    rw [List.take_of_length_le (by omega)] at hs ⊢
    exact Pw.ret_ (x := ()) (.tmp rfl (.tmp rfl .nil)) (by unfold sumM; rw [if_pos hs]; rfl) trivial (fun w h => by trivial)
end Go.Proofs.Wk
/- Walks of layer 10 (graph): approvers, supported, seats, total. -/
namespace Go.Proofs.Wk
open Go.RowKit
set_option maxRecDepth 100000
set_option maxHeartbeats 1000000
attribute [local irreducible] Pw OpG
set_option linter.unusedVariables false
set_option linter.unusedSimpArgs false
theorem formB_spec {s : Sn} (h : formB s = true) : s.vs.length ≤ 32 ∧ s.cs.length ≤ 32 ∧ risB s.cs = true ∧ ∀ j, j < s.vs.length → vOk s.vs j = true := by
  unfold formB at h
  simp only [Bool.and_eq_true, decide_eq_true_eq] at h
  exact ⟨h.1, h.2.1, h.2.2.1, allB_iff.1 h.2.2.2⟩
end Go.Proofs.Wk
/- The document's snapshots: rising, Formed. -/
namespace Go.Proofs.Wk
open Go.RowKit
set_option maxRecDepth 100000
set_option maxHeartbeats 4000000
attribute [local irreducible] Pw OpG
set_option linter.unusedVariables false
set_option linter.unusedSimpArgs false
theorem rrising_ct (l : List Int) (x : Option Addr × Nat) : Ct Try.prog 23 #[sl l x] (I1 l x) (fun _ : Unit => .bool (risB l)) Tt (fun _ _ => True) := by
  obtain ⟨A, c⟩ := x
  refine Ct.start Try.func23 rfl rfl (slots_of rfl slots1) (fun D w0 => ?_)
  refine Pw.use (p := l.length ≤ maxLen) (fun w h => (fact0 h).top) (fun htop => ?_)
  have htop := top63 htop
  repeat (first | (with_reducible first | refine Pw.seq ?_ | refine Pw.region ?_ | refine Pw.nil ?_ | refine Pw.then_ ?_ | refine Pw.skip ?_ | refine Pw.block ?_ | refine Pw.exit ?_ | refine Pw.inX ?_ | refine Pw.inN ?_ | refine Pw.inR ?_ | refine Pw.thenX ?_ | refine Pw.thenR ?_ | refine Pw.ret ?_) | refine Pw.list (Pw.pure rfl rfl rfl ?_) | refine Pw.inY rfl ?_ | refine Pw.list (Pw.off rfl rfl ?_) | refine Pw.condT rfl ?_ | refine Pw.condF rfl ?_)
  refine Pw.loopJ (σ := Nat) (fun i => i ≤ l.length ∧ ∀ j, j < i → okAt l j = true) (fun i => ⟨[(0, .slice A l.length c), (5, .int .i64 l.length), (6, .int .i64 i)], [], [Ints .i64 l A c]⟩) (fun i => l.length - i) 0 ⟨Nat.zero_le _, fun j hj => absurd hj (Nat.not_lt_zero j)⟩ (Pw.enter ⟨rfl, rfl, rfl, trivial⟩ (fun _ h => h)) ?_
  rintro i ⟨hi, hj⟩
  dsimp only at hi hj ⊢
  repeat (first | (with_reducible first | refine Pw.seq ?_ | refine Pw.region ?_ | refine Pw.nil ?_ | refine Pw.then_ ?_ | refine Pw.skip ?_ | refine Pw.block ?_ | refine Pw.exit ?_ | refine Pw.inX ?_ | refine Pw.inN ?_ | refine Pw.inR ?_ | refine Pw.thenX ?_ | refine Pw.thenR ?_ | refine Pw.ret ?_) | refine Pw.list (Pw.pure rfl rfl rfl ?_) | refine Pw.inY rfl ?_ | refine Pw.list (Pw.off rfl rfl ?_) | refine Pw.condT rfl ?_ | refine Pw.condF rfl ?_)
  refine Pw.condD rfl (fun c3 => ?_) (fun c3 => ?_)
  · have hi0 : (0 : Int) ≤ (i : Int) := Int.natCast_nonneg i
    have hi2 : i < l.length := by omega
    refine Pw.use (p := A.isSome = true) (fun w h => (hv w h : Ints .i64 l A c w).has hi0 c3) (fun hA => ?_)
    obtain ⟨ad, rfl⟩ := Option.isSome_iff_exists.1 hA
    repeat (first | (with_reducible first | refine Pw.seq ?_ | refine Pw.region ?_ | refine Pw.nil ?_ | refine Pw.then_ ?_ | refine Pw.skip ?_ | refine Pw.block ?_ | refine Pw.exit ?_ | refine Pw.inX ?_ | refine Pw.inN ?_ | refine Pw.inR ?_ | refine Pw.thenX ?_ | refine Pw.thenR ?_ | refine Pw.ret ?_) | refine Pw.list (Pw.pure rfl rfl rfl ?_) | refine Pw.inY rfl ?_ | refine Pw.list (Pw.off rfl rfl ?_) | refine Pw.condT rfl ?_ | refine Pw.condF rfl ?_ | refine Pw.list (Pw.box rfl rfl rfl rfl (fun _ => ?_)) | refine Pw.list (Pw.alloc rfl rfl rfl rfl rfl (fun _ => ?_)) | refine Pw.list (Pw.build rfl rfl rfl rfl ?_) | refine Pw.list (Pw.ld rfl inferInstance rfl rfl rfl ?_) | refine Pw.list (Pw.sto rfl rfl inferInstance rfl rfl rfl rfl rfl inferInstance rfl ?_))
    refine Pw.drawnG mixed rfl rfl ?_
    refine Pw.takeP 0 (nb 28 1) rfl rfl rfl rfl (by kernel_rfl) np sf ?_
    refine Pw.takeP 1 (nb 28 3) rfl rfl rfl rfl (by kernel_rfl) np sf ?_
    refine Pw.takeIx 2 (nb 28 7) rfl rfl rfl rfl rfl (by first | assumption | omega) (by first | assumption | omega) rfl rfl (by kernel_rfl) np sf ?_
    refine Pw.takeLd 3 (nb 28 15) rfl rfl rfl (fun w hS => by first | exact own_cell (fact0 hS) (by first | assumption | omega) (by first | assumption | omega) | exact own_cellX (fact0 hS) (by first | assumption | omega) (by first | assumption | omega) | exact (fact0 hS).cell (by first | assumption | omega) (by first | assumption | omega) | exact (fact1 hS).cell (by first | assumption | omega) (by first | assumption | omega) | exact (fact2 hS).cell (by first | assumption | omega) (by first | assumption | omega) | exact (fact3 hS).cell (by first | assumption | omega) (by first | assumption | omega)) rfl rfl (by kernel_rfl) np sf ?_
    refine Pw.takeP 4 (nb 28 31) rfl rfl rfl rfl (by kernel_rfl) np sf ?_
    refine Pw.takeP 5 (nb 28 63) rfl rfl rfl rfl (by kernel_rfl) np sf ?_
    refine Pw.split 14 rfl (fun c4 => ?_) (fun c4 => ?_)
    · skip
      refine Pw.takeO 6 (nb 28 127) rfl rfl rfl (by kernel_rfl) np sf ?_
      refine Pw.takeO 7 (nb 28 255) rfl rfl rfl (by kernel_rfl) np sf ?_
      refine Pw.takeO 8 (nb 28 511) rfl rfl rfl (by kernel_rfl) np sf ?_
      refine Pw.takeO 9 (nb 28 1023) rfl rfl rfl (by kernel_rfl) np sf ?_
      refine Pw.takeO 10 (nb 28 2047) rfl rfl rfl (by kernel_rfl) np sf ?_
      refine Pw.takeP 11 (nb 28 4095) rfl rfl rfl rfl (by kernel_rfl) np sf ?_
      refine Pw.takeP 12 (nb 28 8191) rfl rfl rfl rfl (by kernel_rfl) np sf ?_
      refine Pw.takeO 13 (nb 28 16383) rfl rfl rfl (by kernel_rfl) np sf ?_
      refine Pw.takeO 14 (nb 28 32767) rfl rfl rfl (by kernel_rfl) np sf ?_
      refine Pw.takeO 15 (nb 28 65535) rfl rfl rfl (by kernel_rfl) np sf ?_
      refine Pw.takeO 16 (nb 28 131071) rfl rfl rfl (by kernel_rfl) np sf ?_
      refine Pw.takeO 17 (nb 28 262143) rfl rfl rfl (by kernel_rfl) np sf ?_
      refine Pw.takeO 18 (nb 28 524287) rfl rfl rfl (by kernel_rfl) np sf ?_
      refine Pw.takeO 19 (nb 28 1048575) rfl rfl rfl (by kernel_rfl) np sf ?_
      refine Pw.takeO 20 (nb 28 2097151) rfl rfl rfl (by kernel_rfl) np sf ?_
      refine Pw.takeO 21 (nb 28 4194303) rfl rfl rfl (by kernel_rfl) np sf ?_
      refine Pw.takeO 22 (nb 28 8388607) rfl rfl rfl (by kernel_rfl) np sf ?_
      refine Pw.takeO 23 (nb 28 16777215) rfl rfl rfl (by kernel_rfl) np sf ?_
      refine Pw.takeO 24 (nb 28 33554431) rfl rfl rfl (by kernel_rfl) np sf ?_
      refine Pw.takeO 25 (nb 28 67108863) rfl rfl rfl (by kernel_rfl) np sf ?_
      refine Pw.takeO 26 (nb 28 134217727) rfl rfl rfl (by kernel_rfl) np sf ?_
      refine Pw.takeP 27 (nb 28 268435455) rfl rfl rfl rfl (by kernel_rfl) np sf ?_
      refine Pw.done (by kernel_rfl) ?_
      repeat (first | (with_reducible first | refine Pw.seq ?_ | refine Pw.region ?_ | refine Pw.nil ?_ | refine Pw.then_ ?_ | refine Pw.skip ?_ | refine Pw.block ?_ | refine Pw.exit ?_ | refine Pw.inX ?_ | refine Pw.inN ?_ | refine Pw.inR ?_ | refine Pw.thenX ?_ | refine Pw.thenR ?_ | refine Pw.ret ?_) | refine Pw.list (Pw.pure rfl rfl rfl ?_) | refine Pw.inY rfl ?_ | refine Pw.list (Pw.off rfl rfl ?_) | refine Pw.condT rfl ?_ | refine Pw.condF rfl ?_ | refine Pw.list (Pw.box rfl rfl rfl rfl (fun _ => ?_)) | refine Pw.list (Pw.alloc rfl rfl rfl rfl rfl (fun _ => ?_)) | refine Pw.list (Pw.build rfl rfl rfl rfl ?_) | refine Pw.list (Pw.ld rfl inferInstance rfl rfl rfl ?_) | refine Pw.list (Pw.sto rfl rfl inferInstance rfl rfl rfl rfl rfl inferInstance rfl ?_))
      exact Pw.ret_ (x := ()) (.tmp rfl .nil) (congrArg Value.bool (allB_false hi2 (okAt_no (by omega))).symm) trivial (fun w h => by trivial)
    refine Pw.takeP 6 (nb 28 127) rfl rfl rfl rfl (by kernel_rfl) np sf ?_
    refine Pw.takeP 7 (nb 28 255) rfl rfl rfl rfl (by kernel_rfl) np sf ?_
    refine Pw.takeIx 8 (nb 28 511) rfl rfl rfl rfl rfl (by first | assumption | omega) (by first | assumption | omega) rfl rfl (by kernel_rfl) np sf ?_
    refine Pw.takeLd 9 (nb 28 1023) rfl rfl rfl (fun w hS => by first | exact own_cell (fact0 hS) (by first | assumption | omega) (by first | assumption | omega) | exact own_cellX (fact0 hS) (by first | assumption | omega) (by first | assumption | omega) | exact (fact0 hS).cell (by first | assumption | omega) (by first | assumption | omega) | exact (fact1 hS).cell (by first | assumption | omega) (by first | assumption | omega) | exact (fact2 hS).cell (by first | assumption | omega) (by first | assumption | omega) | exact (fact3 hS).cell (by first | assumption | omega) (by first | assumption | omega)) rfl rfl (by kernel_rfl) np sf ?_
    refine Pw.takeP 10 (nb 28 2047) rfl rfl rfl rfl (by kernel_rfl) np sf ?_
    refine Pw.takeP 11 (nb 28 4095) rfl rfl rfl rfl (by kernel_rfl) np sf ?_
    refine Pw.takeP 12 (nb 28 8191) rfl rfl rfl rfl (by kernel_rfl) np sf ?_
    refine Pw.split 21 rfl (fun c5 => ?_) (fun c5 => ?_)
    · skip
      refine Pw.takeO 13 (nb 28 16383) rfl rfl rfl (by kernel_rfl) np sf ?_
      refine Pw.takeO 14 (nb 28 32767) rfl rfl rfl (by kernel_rfl) np sf ?_
      refine Pw.takeO 15 (nb 28 65535) rfl rfl rfl (by kernel_rfl) np sf ?_
      refine Pw.takeO 16 (nb 28 131071) rfl rfl rfl (by kernel_rfl) np sf ?_
      refine Pw.takeO 17 (nb 28 262143) rfl rfl rfl (by kernel_rfl) np sf ?_
      refine Pw.takeO 18 (nb 28 524287) rfl rfl rfl (by kernel_rfl) np sf ?_
      refine Pw.takeO 19 (nb 28 1048575) rfl rfl rfl (by kernel_rfl) np sf ?_
      refine Pw.takeO 20 (nb 28 2097151) rfl rfl rfl (by kernel_rfl) np sf ?_
      refine Pw.takeO 21 (nb 28 4194303) rfl rfl rfl (by kernel_rfl) np sf ?_
      refine Pw.takeO 22 (nb 28 8388607) rfl rfl rfl (by kernel_rfl) np sf ?_
      refine Pw.takeO 23 (nb 28 16777215) rfl rfl rfl (by kernel_rfl) np sf ?_
      refine Pw.takeO 24 (nb 28 33554431) rfl rfl rfl (by kernel_rfl) np sf ?_
      refine Pw.takeO 25 (nb 28 67108863) rfl rfl rfl (by kernel_rfl) np sf ?_
      refine Pw.takeO 26 (nb 28 134217727) rfl rfl rfl (by kernel_rfl) np sf ?_
      refine Pw.takeP 27 (nb 28 268435455) rfl rfl rfl rfl (by kernel_rfl) np sf ?_
      refine Pw.done (by kernel_rfl) ?_
      repeat (first | (with_reducible first | refine Pw.seq ?_ | refine Pw.region ?_ | refine Pw.nil ?_ | refine Pw.then_ ?_ | refine Pw.skip ?_ | refine Pw.block ?_ | refine Pw.exit ?_ | refine Pw.inX ?_ | refine Pw.inN ?_ | refine Pw.inR ?_ | refine Pw.thenX ?_ | refine Pw.thenR ?_ | refine Pw.ret ?_) | refine Pw.list (Pw.pure rfl rfl rfl ?_) | refine Pw.inY rfl ?_ | refine Pw.list (Pw.off rfl rfl ?_) | refine Pw.condT rfl ?_ | refine Pw.condF rfl ?_ | refine Pw.list (Pw.box rfl rfl rfl rfl (fun _ => ?_)) | refine Pw.list (Pw.alloc rfl rfl rfl rfl rfl (fun _ => ?_)) | refine Pw.list (Pw.build rfl rfl rfl rfl ?_) | refine Pw.list (Pw.ld rfl inferInstance rfl rfl rfl ?_) | refine Pw.list (Pw.sto rfl rfl inferInstance rfl rfl rfl rfl rfl inferInstance rfl ?_))
      exact Pw.ret_ (x := ()) (.tmp rfl .nil) (congrArg Value.bool (allB_false hi2 (okAt_no (by omega))).symm) trivial (fun w h => by trivial)
    refine Pw.takeP 13 (nb 28 16383) rfl rfl rfl rfl (by kernel_rfl) np sf ?_
    refine Pw.takeP 14 (nb 28 32767) rfl rfl rfl rfl (by kernel_rfl) np sf ?_
    refine Pw.takeP 15 (nb 28 65535) rfl rfl rfl rfl (by kernel_rfl) np sf ?_
    refine Pw.split 24 rfl (fun c6 => ?_) (fun c6 => ?_)
    · skip
      refine Pw.takeP 16 (nb 28 131071) rfl rfl rfl rfl (by kernel_rfl) np sf ?_
      refine Pw.takeP 17 (nb 28 262143) rfl rfl rfl rfl (by kernel_rfl) np sf ?_
      refine Pw.takeP 18 (nb 28 524287) rfl rfl rfl rfl (by kernel_rfl) np sf ?_
      refine Pw.re (d := 27) (v' := .int .i64 ((i : Int) - 1)) rfl (congrArg (Value.int .i64) (wi64 (by omega) (by omega))) ?_
      have hi3 : (0 : Int) ≤ (i : Int) - 1 := by omega
      have hi4 : (i : Int) - 1 < (l.length : Int) := by omega
      refine Pw.takeIx 19 (nb 28 1048575) rfl rfl rfl rfl rfl (by first | assumption | omega) (by first | assumption | omega) rfl rfl (by kernel_rfl) np sf ?_
      refine Pw.takeLd 20 (nb 28 2097151) rfl rfl rfl (fun w hS => by first | exact own_cell (fact0 hS) (by first | assumption | omega) (by first | assumption | omega) | exact own_cellX (fact0 hS) (by first | assumption | omega) (by first | assumption | omega) | exact (fact0 hS).cell (by first | assumption | omega) (by first | assumption | omega) | exact (fact1 hS).cell (by first | assumption | omega) (by first | assumption | omega) | exact (fact2 hS).cell (by first | assumption | omega) (by first | assumption | omega) | exact (fact3 hS).cell (by first | assumption | omega) (by first | assumption | omega)) rfl rfl (by kernel_rfl) np sf ?_
      refine Pw.takeP 21 (nb 28 4194303) rfl rfl rfl rfl (by kernel_rfl) np sf ?_
      refine Pw.takeP 22 (nb 28 8388607) rfl rfl rfl rfl (by kernel_rfl) np sf ?_
      refine Pw.takeIx 23 (nb 28 16777215) rfl rfl rfl rfl rfl (by first | assumption | omega) (by first | assumption | omega) rfl rfl (by kernel_rfl) np sf ?_
      refine Pw.takeLd 24 (nb 28 33554431) rfl rfl rfl (fun w hS => by first | exact own_cell (fact0 hS) (by first | assumption | omega) (by first | assumption | omega) | exact own_cellX (fact0 hS) (by first | assumption | omega) (by first | assumption | omega) | exact (fact0 hS).cell (by first | assumption | omega) (by first | assumption | omega) | exact (fact1 hS).cell (by first | assumption | omega) (by first | assumption | omega) | exact (fact2 hS).cell (by first | assumption | omega) (by first | assumption | omega) | exact (fact3 hS).cell (by first | assumption | omega) (by first | assumption | omega)) rfl rfl (by kernel_rfl) np sf ?_
      refine Pw.takeP 25 (nb 28 67108863) rfl rfl rfl rfl (by kernel_rfl) np sf ?_
      refine Pw.takeP 26 (nb 28 134217727) rfl rfl rfl rfl (by kernel_rfl) np sf ?_
      refine Pw.takeP 27 (nb 28 268435455) rfl rfl rfl rfl (by kernel_rfl) np sf ?_
      refine Pw.done (by kernel_rfl) ?_
      repeat (first | (with_reducible first | refine Pw.seq ?_ | refine Pw.region ?_ | refine Pw.nil ?_ | refine Pw.then_ ?_ | refine Pw.skip ?_ | refine Pw.block ?_ | refine Pw.exit ?_ | refine Pw.inX ?_ | refine Pw.inN ?_ | refine Pw.inR ?_ | refine Pw.thenX ?_ | refine Pw.thenR ?_ | refine Pw.ret ?_) | refine Pw.list (Pw.pure rfl rfl rfl ?_) | refine Pw.inY rfl ?_ | refine Pw.list (Pw.off rfl rfl ?_) | refine Pw.condT rfl ?_ | refine Pw.condF rfl ?_ | refine Pw.list (Pw.box rfl rfl rfl rfl (fun _ => ?_)) | refine Pw.list (Pw.alloc rfl rfl rfl rfl rfl (fun _ => ?_)) | refine Pw.list (Pw.build rfl rfl rfl rfl ?_) | refine Pw.list (Pw.ld rfl inferInstance rfl rfl rfl ?_) | refine Pw.list (Pw.sto rfl rfl inferInstance rfl rfl rfl rfl rfl inferInstance rfl ?_))
      refine Pw.condD rfl (fun c7 => ?_) (fun c7 => ?_)
      · repeat (first | (with_reducible first | refine Pw.seq ?_ | refine Pw.region ?_ | refine Pw.nil ?_ | refine Pw.then_ ?_ | refine Pw.skip ?_ | refine Pw.block ?_ | refine Pw.exit ?_ | refine Pw.inX ?_ | refine Pw.inN ?_ | refine Pw.inR ?_ | refine Pw.thenX ?_ | refine Pw.thenR ?_ | refine Pw.ret ?_) | refine Pw.list (Pw.pure rfl rfl rfl ?_) | refine Pw.inY rfl ?_ | refine Pw.list (Pw.off rfl rfl ?_) | refine Pw.condT rfl ?_ | refine Pw.condF rfl ?_ | refine Pw.list (Pw.box rfl rfl rfl rfl (fun _ => ?_)) | refine Pw.list (Pw.alloc rfl rfl rfl rfl rfl (fun _ => ?_)) | refine Pw.list (Pw.build rfl rfl rfl rfl ?_) | refine Pw.list (Pw.ld rfl inferInstance rfl rfl rfl ?_) | refine Pw.list (Pw.sto rfl rfl inferInstance rfl rfl rfl rfl rfl inferInstance rfl ?_))
        exact Pw.ret_ (x := ()) (.tmp rfl .nil) (congrArg Value.bool (allB_false hi2 (okAt_no (by omega))).symm) trivial (fun w h => by trivial)
      repeat (first | (with_reducible first | refine Pw.seq ?_ | refine Pw.region ?_ | refine Pw.nil ?_ | refine Pw.then_ ?_ | refine Pw.skip ?_ | refine Pw.block ?_ | refine Pw.exit ?_ | refine Pw.inX ?_ | refine Pw.inN ?_ | refine Pw.inR ?_ | refine Pw.thenX ?_ | refine Pw.thenR ?_ | refine Pw.ret ?_) | refine Pw.list (Pw.pure rfl rfl rfl ?_) | refine Pw.inY rfl ?_ | refine Pw.list (Pw.off rfl rfl ?_) | refine Pw.condT rfl ?_ | refine Pw.condF rfl ?_ | refine Pw.list (Pw.box rfl rfl rfl rfl (fun _ => ?_)) | refine Pw.list (Pw.alloc rfl rfl rfl rfl rfl (fun _ => ?_)) | refine Pw.list (Pw.build rfl rfl rfl rfl ?_) | refine Pw.list (Pw.ld rfl inferInstance rfl rfl rfl ?_) | refine Pw.list (Pw.sto rfl rfl inferInstance rfl rfl rfl rfl rfl inferInstance rfl ?_))
      refine Pw.re (d := 6) (v' := .int .i64 ((i + 1 : Nat) : Int)) rfl (congrArg (Value.int .i64) (i64s (by omega) htop)) ?_
      exact Pw.again (i + 1) ⟨by omega, fun j h => by
        rcases Nat.lt_or_ge j i with h' | h'
        · exact hj j h'
        · obtain rfl : j = i := by omega
          exact okAt_iff.2 (by omega)⟩ (by show l.length - (i + 1) < l.length - i; omega) ⟨rfl, rfl, rfl, trivial⟩ rfl (fun w h => h)
    · skip
      refine Pw.takeO 16 (nb 28 131071) rfl rfl rfl (by kernel_rfl) np sf ?_
      refine Pw.takeO 17 (nb 28 262143) rfl rfl rfl (by kernel_rfl) np sf ?_
      refine Pw.takeO 18 (nb 28 524287) rfl rfl rfl (by kernel_rfl) np sf ?_
      refine Pw.takeO 19 (nb 28 1048575) rfl rfl rfl (by kernel_rfl) np sf ?_
      refine Pw.takeO 20 (nb 28 2097151) rfl rfl rfl (by kernel_rfl) np sf ?_
      refine Pw.takeO 21 (nb 28 4194303) rfl rfl rfl (by kernel_rfl) np sf ?_
      refine Pw.takeO 22 (nb 28 8388607) rfl rfl rfl (by kernel_rfl) np sf ?_
      refine Pw.takeO 23 (nb 28 16777215) rfl rfl rfl (by kernel_rfl) np sf ?_
      refine Pw.takeO 24 (nb 28 33554431) rfl rfl rfl (by kernel_rfl) np sf ?_
      refine Pw.takeO 25 (nb 28 67108863) rfl rfl rfl (by kernel_rfl) np sf ?_
      refine Pw.takeP 26 (nb 28 134217727) rfl rfl rfl rfl (by kernel_rfl) np sf ?_
      refine Pw.takeP 27 (nb 28 268435455) rfl rfl rfl rfl (by kernel_rfl) np sf ?_
      refine Pw.done (by kernel_rfl) ?_
      repeat (first | (with_reducible first | refine Pw.seq ?_ | refine Pw.region ?_ | refine Pw.nil ?_ | refine Pw.then_ ?_ | refine Pw.skip ?_ | refine Pw.block ?_ | refine Pw.exit ?_ | refine Pw.inX ?_ | refine Pw.inN ?_ | refine Pw.inR ?_ | refine Pw.thenX ?_ | refine Pw.thenR ?_ | refine Pw.ret ?_) | refine Pw.list (Pw.pure rfl rfl rfl ?_) | refine Pw.inY rfl ?_ | refine Pw.list (Pw.off rfl rfl ?_) | refine Pw.condT rfl ?_ | refine Pw.condF rfl ?_ | refine Pw.list (Pw.box rfl rfl rfl rfl (fun _ => ?_)) | refine Pw.list (Pw.alloc rfl rfl rfl rfl rfl (fun _ => ?_)) | refine Pw.list (Pw.build rfl rfl rfl rfl ?_) | refine Pw.list (Pw.ld rfl inferInstance rfl rfl rfl ?_) | refine Pw.list (Pw.sto rfl rfl inferInstance rfl rfl rfl rfl rfl inferInstance rfl ?_))
      refine Pw.re (d := 6) (v' := .int .i64 ((i + 1 : Nat) : Int)) rfl (congrArg (Value.int .i64) (i64s (by omega) htop)) ?_
      exact Pw.again (i + 1) ⟨by omega, fun j h => by
        rcases Nat.lt_or_ge j i with h' | h'
        · exact hj j h'
        · obtain rfl : j = i := by omega
          exact okAt_iff.2 (by omega)⟩ (by show l.length - (i + 1) < l.length - i; omega) ⟨rfl, rfl, rfl, trivial⟩ rfl (fun w h => h)
  · repeat (first | (with_reducible first | refine Pw.seq ?_ | refine Pw.region ?_ | refine Pw.nil ?_ | refine Pw.then_ ?_ | refine Pw.skip ?_ | refine Pw.block ?_ | refine Pw.exit ?_ | refine Pw.inX ?_ | refine Pw.inN ?_ | refine Pw.inR ?_ | refine Pw.thenX ?_ | refine Pw.thenR ?_ | refine Pw.ret ?_) | refine Pw.list (Pw.pure rfl rfl rfl ?_) | refine Pw.inY rfl ?_ | refine Pw.list (Pw.off rfl rfl ?_) | refine Pw.condT rfl ?_ | refine Pw.condF rfl ?_)
    exact Pw.ret_ (x := ()) (.tmp rfl .nil) (congrArg Value.bool (allB_true (fun j h => hj j (by omega))).symm) trivial (fun w h => by trivial)
def stL (vs : List Vtr) : List Int := vs.map Vtr.st
theorem stL_snoc {vs : List Vtr} {i : Nat} {v : Vtr} (h : vs[i]? = some v) : stL (vs.take (i + 1)) = stL (vs.take i) ++ [v.st] := by unfold stL; rw [take_snoc h, List.map_append]; rfl
theorem lsum_st (vs : List Vtr) : lsum (stL vs) = sumSt vs := by
  induction vs with
  | nil => rfl
  | cons v r ih => show v.st + lsum (stL r) = v.st + sumSt r; rw [ih]
/-- What is asked of a voter, but for the sum. -/
def vOk1 (vs : List Vtr) (i : Nat) : Prop := ∀ v, vs[i]? = some v → ¬ v.id ∈ idsOf (vs.take i) ∧ 0 ≤ v.id ∧ v.id ≤ 2147483647 ∧ v.pk.length ≤ 8 ∧ risB v.pk = true
theorem vOk_of1 {vs : List Vtr} (h0 : ∀ v ∈ vs, 0 ≤ v.st) (hs : sumSt vs ≤ 18446744073709551615) {i : Nat} (hi : i < vs.length) (h : vOk1 vs i) : vOk vs i = true := by
  have hv : vs[i]? = some vs[i] := List.getElem?_eq_getElem hi
  refine (vOk_iff hv).2 ⟨?_, h _ hv⟩
  rw [← sumSt_snoc, ← take_snoc hv]
  have e : sumSt vs = sumSt (vs.take (i + 1)) + sumSt (vs.drop (i + 1)) := by
    rw [← lsum_st, ← lsum_st, ← lsum_st, ← lsum_append]
    unfold stL
    rw [← List.map_append, List.take_append_drop]
  have h2 := sumSt_nonneg (l := vs.drop (i + 1)) (fun v hv => h0 v (List.mem_of_mem_drop hv))
  omega
theorem formB_sum {s : Sn} (h : formB s = true) : sumSt s.vs ≤ 18446744073709551615 := by
  obtain ⟨_, _, _, h4⟩ := formB_spec h
  cases hn : s.vs.length with
  | zero => rw [List.eq_nil_of_length_eq_zero hn]; decide
  | succ n =>
    have hv : s.vs[n]? = some s.vs[n] := List.getElem?_eq_getElem (by omega)
    have h5 := ((vOk_iff hv).1 (h4 n (by omega))).1
    rw [← sumSt_snoc, ← take_snoc hv, ← hn, List.take_length] at h5
    exact h5
theorem dFormed_ct (s : Sn) (hW : snW s) : Ct Try.prog 9 #[snV s] (snF s) (fun _ : Unit => .bool (formB s)) Tt (fun _ _ => True) := by
  obtain ⟨vs, ⟨A, c⟩, cs, zc⟩ := s
  refine Ct.start Try.func9 rfl rfl (slots_of rfl slots1) (fun D w0 => Pw.facts sn2 ?_)
  refine Pw.use (p := vs.length ≤ maxLen) (fun w h => (fact0 h).top) (fun htop => ?_)
  have htop := top63 htop
  repeat (first | (with_reducible first | refine Pw.seq ?_ | refine Pw.region ?_ | refine Pw.nil ?_ | refine Pw.then_ ?_ | refine Pw.skip ?_ | refine Pw.block ?_ | refine Pw.exit ?_ | refine Pw.inX ?_ | refine Pw.inN ?_ | refine Pw.inR ?_ | refine Pw.thenX ?_ | refine Pw.thenR ?_ | refine Pw.ret ?_) | refine Pw.list (Pw.pure rfl rfl rfl ?_) | refine Pw.inY rfl ?_ | refine Pw.list (Pw.off rfl rfl ?_) | refine Pw.condT rfl ?_ | refine Pw.condF rfl ?_)
  refine Pw.list (Pw.box rfl rfl rfl rfl (fun g1 => freeHead ?_))
  repeat (first | (with_reducible first | refine Pw.seq ?_ | refine Pw.region ?_ | refine Pw.nil ?_ | refine Pw.then_ ?_ | refine Pw.skip ?_ | refine Pw.block ?_ | refine Pw.exit ?_ | refine Pw.inX ?_ | refine Pw.inN ?_ | refine Pw.inR ?_ | refine Pw.thenX ?_ | refine Pw.thenR ?_ | refine Pw.ret ?_) | refine Pw.list (Pw.pure rfl rfl rfl ?_) | refine Pw.inY rfl ?_ | refine Pw.list (Pw.off rfl rfl ?_) | refine Pw.condT rfl ?_ | refine Pw.condF rfl ?_ | refine Pw.list (Pw.box rfl rfl rfl rfl (fun _ => ?_)) | refine Pw.list (Pw.alloc rfl rfl rfl rfl rfl (fun _ => ?_)) | refine Pw.list (Pw.build rfl rfl rfl rfl ?_) | refine Pw.list (Pw.ld rfl inferInstance rfl rfl rfl ?_) | refine Pw.list (Pw.sto rfl rfl inferInstance rfl rfl rfl rfl rfl inferInstance rfl ?_))
  refine Pw.split 13 rfl (fun c1 => ?_) (fun c1 => ?_)
  · dsimp only at c1
    repeat (first | (with_reducible first | refine Pw.seq ?_ | refine Pw.region ?_ | refine Pw.nil ?_ | refine Pw.then_ ?_ | refine Pw.skip ?_ | refine Pw.block ?_ | refine Pw.exit ?_ | refine Pw.inX ?_ | refine Pw.inN ?_ | refine Pw.inR ?_ | refine Pw.thenX ?_ | refine Pw.thenR ?_ | refine Pw.ret ?_) | refine Pw.list (Pw.pure rfl rfl rfl ?_) | refine Pw.inY rfl ?_ | refine Pw.list (Pw.off rfl rfl ?_) | refine Pw.condT rfl ?_ | refine Pw.condF rfl ?_ | refine Pw.list (Pw.box rfl rfl rfl rfl (fun _ => ?_)) | refine Pw.list (Pw.alloc rfl rfl rfl rfl rfl (fun _ => ?_)) | refine Pw.list (Pw.build rfl rfl rfl rfl ?_) | refine Pw.list (Pw.ld rfl inferInstance rfl rfl rfl ?_) | refine Pw.list (Pw.sto rfl rfl inferInstance rfl rfl rfl rfl rfl inferInstance rfl ?_))
    exact Pw.ret_ (x := ()) (.tmp rfl .nil) (congrArg Value.bool (formB_no (by simp only; omega)).symm) trivial (fun w h => by trivial)
  repeat (first | (with_reducible first | refine Pw.seq ?_ | refine Pw.region ?_ | refine Pw.nil ?_ | refine Pw.then_ ?_ | refine Pw.skip ?_ | refine Pw.block ?_ | refine Pw.exit ?_ | refine Pw.inX ?_ | refine Pw.inN ?_ | refine Pw.inR ?_ | refine Pw.thenX ?_ | refine Pw.thenR ?_ | refine Pw.ret ?_) | refine Pw.list (Pw.pure rfl rfl rfl ?_) | refine Pw.inY rfl ?_ | refine Pw.list (Pw.off rfl rfl ?_) | refine Pw.condT rfl ?_ | refine Pw.condF rfl ?_ | refine Pw.list (Pw.box rfl rfl rfl rfl (fun _ => ?_)) | refine Pw.list (Pw.alloc rfl rfl rfl rfl rfl (fun _ => ?_)) | refine Pw.list (Pw.build rfl rfl rfl rfl ?_) | refine Pw.list (Pw.ld rfl inferInstance rfl rfl rfl ?_) | refine Pw.list (Pw.sto rfl rfl inferInstance rfl rfl rfl rfl rfl inferInstance rfl ?_))
  refine Pw.split 19 rfl (fun c2 => ?_) (fun c2 => ?_)
  · dsimp only at c2
    repeat (first | (with_reducible first | refine Pw.seq ?_ | refine Pw.region ?_ | refine Pw.nil ?_ | refine Pw.then_ ?_ | refine Pw.skip ?_ | refine Pw.block ?_ | refine Pw.exit ?_ | refine Pw.inX ?_ | refine Pw.inN ?_ | refine Pw.inR ?_ | refine Pw.thenX ?_ | refine Pw.thenR ?_ | refine Pw.ret ?_) | refine Pw.list (Pw.pure rfl rfl rfl ?_) | refine Pw.inY rfl ?_ | refine Pw.list (Pw.off rfl rfl ?_) | refine Pw.condT rfl ?_ | refine Pw.condF rfl ?_ | refine Pw.list (Pw.box rfl rfl rfl rfl (fun _ => ?_)) | refine Pw.list (Pw.alloc rfl rfl rfl rfl rfl (fun _ => ?_)) | refine Pw.list (Pw.build rfl rfl rfl rfl ?_) | refine Pw.list (Pw.ld rfl inferInstance rfl rfl rfl ?_) | refine Pw.list (Pw.sto rfl rfl inferInstance rfl rfl rfl rfl rfl inferInstance rfl ?_))
    exact Pw.ret_ (x := ()) (.tmp rfl .nil) (congrArg Value.bool (formB_no (by simp only; omega)).symm) trivial (fun w h => by trivial)
  dsimp only at c1 c2
  repeat (first | (with_reducible first | refine Pw.seq ?_ | refine Pw.region ?_ | refine Pw.nil ?_ | refine Pw.then_ ?_ | refine Pw.skip ?_ | refine Pw.block ?_ | refine Pw.exit ?_ | refine Pw.inX ?_ | refine Pw.inN ?_ | refine Pw.inR ?_ | refine Pw.thenX ?_ | refine Pw.thenR ?_ | refine Pw.ret ?_) | refine Pw.list (Pw.pure rfl rfl rfl ?_) | refine Pw.inY rfl ?_ | refine Pw.list (Pw.off rfl rfl ?_) | refine Pw.condT rfl ?_ | refine Pw.condF rfl ?_ | refine Pw.list (Pw.box rfl rfl rfl rfl (fun _ => ?_)) | refine Pw.list (Pw.alloc rfl rfl rfl rfl rfl (fun _ => ?_)) | refine Pw.list (Pw.build rfl rfl rfl rfl ?_) | refine Pw.list (Pw.ld rfl inferInstance rfl rfl rfl ?_) | refine Pw.list (Pw.sto rfl rfl inferInstance rfl rfl rfl rfl rfl inferInstance rfl ?_))
  refine Pw.list (Pw.call (rrising_ct cs zc) rfl rfl rfl (by kernel_rfl) rfl rfl (fun w h => (hv w h)) ?_)
  intro _ _
  cases hr : risB cs
  · repeat (first | (with_reducible first | refine Pw.seq ?_ | refine Pw.region ?_ | refine Pw.nil ?_ | refine Pw.then_ ?_ | refine Pw.skip ?_ | refine Pw.block ?_ | refine Pw.exit ?_ | refine Pw.inX ?_ | refine Pw.inN ?_ | refine Pw.inR ?_ | refine Pw.thenX ?_ | refine Pw.thenR ?_ | refine Pw.ret ?_) | refine Pw.list (Pw.pure rfl rfl rfl ?_) | refine Pw.inY rfl ?_ | refine Pw.list (Pw.off rfl rfl ?_) | refine Pw.condT rfl ?_ | refine Pw.condF rfl ?_ | refine Pw.list (Pw.box rfl rfl rfl rfl (fun _ => ?_)) | refine Pw.list (Pw.alloc rfl rfl rfl rfl rfl (fun _ => ?_)) | refine Pw.list (Pw.build rfl rfl rfl rfl ?_) | refine Pw.list (Pw.ld rfl inferInstance rfl rfl rfl ?_) | refine Pw.list (Pw.sto rfl rfl inferInstance rfl rfl rfl rfl rfl inferInstance rfl ?_))
    exact Pw.ret_ (x := ()) (.tmp rfl .nil) (congrArg Value.bool (formB_no (by simp [hr])).symm) trivial (fun w h => by trivial)
  repeat (first | (with_reducible first | refine Pw.seq ?_ | refine Pw.region ?_ | refine Pw.nil ?_ | refine Pw.then_ ?_ | refine Pw.skip ?_ | refine Pw.block ?_ | refine Pw.exit ?_ | refine Pw.inX ?_ | refine Pw.inN ?_ | refine Pw.inR ?_ | refine Pw.thenX ?_ | refine Pw.thenR ?_ | refine Pw.ret ?_) | refine Pw.list (Pw.pure rfl rfl rfl ?_) | refine Pw.inY rfl ?_ | refine Pw.list (Pw.off rfl rfl ?_) | refine Pw.condT rfl ?_ | refine Pw.condF rfl ?_ | refine Pw.list (Pw.box rfl rfl rfl rfl (fun _ => ?_)) | refine Pw.list (Pw.alloc rfl rfl rfl rfl rfl (fun _ => ?_)) | refine Pw.list (Pw.build rfl rfl rfl rfl ?_) | refine Pw.list (Pw.ld rfl inferInstance rfl rfl rfl ?_) | refine Pw.list (Pw.sto rfl rfl inferInstance rfl rfl rfl rfl rfl inferInstance rfl ?_))
  refine Pw.loopJ (σ := Nat × Gr) (fun t => t.1 ≤ vs.length ∧ (∀ j, j < t.1 → vOk1 vs j) ∧ gOk t.2 ((stL (vs.take t.1)).map (Value.int .u64)) t.1 1) (fun t => ⟨[(1, .pointer (some ⟨g1, 0, none⟩)), (3, gv t.2 t.1), (27, .int .i64 vs.length), (28, .int .i64 t.1)], gL1 t.2 ((stL (vs.take t.1)).map (Value.int .u64)) 42, [fun W => W.heap[g1]? = some (row [.slice A vs.length c, sl cs zc] 25), VS vs (A, c)]⟩) (fun t => vs.length - t.1) (0, none) ⟨Nat.zero_le _, fun j hj => absurd hj (Nat.not_lt_zero j), rfl, rfl⟩ (Pw.enter ⟨rfl, rfl, rfl, rfl, trivial⟩ (fun w h => allCons (by first | exact fact0 (h) | exact fact0 (allTail (h)) | exact fact0 (allTail (allTail (h))) | exact fact0 (allTail (allTail (allTail (h)))) | exact fact0 (allTail (allTail (allTail (allTail (h))))) | exact fact0 (allTail (allTail (allTail (allTail (allTail (h)))))) | exact fact0 (allTail (allTail (allTail (allTail (allTail (allTail (h))))))) | exact fact0 (allTail (allTail (allTail (allTail (allTail (allTail (allTail (h)))))))) | exact fact0 (allTail (allTail (allTail (allTail (allTail (allTail (allTail (allTail (h))))))))) | exact fact0 (allTail (allTail (allTail (allTail (allTail (allTail (allTail (allTail (allTail (h))))))))))) (allCons (hv w h) allNil))) ?_
  rintro ⟨i, q⟩ ⟨hi, hj, hq⟩
  dsimp only at hi hj hq ⊢
  repeat (first | (with_reducible first | refine Pw.seq ?_ | refine Pw.region ?_ | refine Pw.nil ?_ | refine Pw.then_ ?_ | refine Pw.skip ?_ | refine Pw.block ?_ | refine Pw.exit ?_ | refine Pw.inX ?_ | refine Pw.inN ?_ | refine Pw.inR ?_ | refine Pw.thenX ?_ | refine Pw.thenR ?_ | refine Pw.ret ?_) | refine Pw.list (Pw.pure rfl rfl rfl ?_) | refine Pw.inY rfl ?_ | refine Pw.list (Pw.off rfl rfl ?_) | refine Pw.condT rfl ?_ | refine Pw.condF rfl ?_)
  refine Pw.condD rfl (fun c3 => ?_) (fun c3 => ?_)
  · have hlt : i < vs.length := by omega
    obtain ⟨v, hvi, hm⟩ := get_at hlt
    repeat (first | (with_reducible first | refine Pw.seq ?_ | refine Pw.region ?_ | refine Pw.nil ?_ | refine Pw.then_ ?_ | refine Pw.skip ?_ | refine Pw.block ?_ | refine Pw.exit ?_ | refine Pw.inX ?_ | refine Pw.inN ?_ | refine Pw.inR ?_ | refine Pw.thenX ?_ | refine Pw.thenR ?_ | refine Pw.ret ?_) | refine Pw.list (Pw.pure rfl rfl rfl ?_) | refine Pw.inY rfl ?_ | refine Pw.list (Pw.off rfl rfl ?_) | refine Pw.condT rfl ?_ | refine Pw.condF rfl ?_ | refine Pw.list (Pw.box rfl rfl rfl rfl (fun _ => ?_)) | refine Pw.list (Pw.alloc rfl rfl rfl rfl rfl (fun _ => ?_)) | refine Pw.list (Pw.build rfl rfl rfl rfl ?_) | refine Pw.list (Pw.ld rfl inferInstance rfl rfl rfl ?_) | refine Pw.list (Pw.sto rfl rfl inferInstance rfl rfl rfl rfl rfl inferInstance rfl ?_))
    refine Pw.list (Pw.index rfl rfl rfl rfl (Int.natCast_nonneg i) c3 (fun w h => (hv w h : VS vs (A, c) w).has (Int.natCast_nonneg i) c3) rfl rfl ?_)
    rintro ad rfl
    refine Pw.list (Pw.loadR v rfl inferInstance rfl (by rw [Int.toNat_natCast]; exact hvi) (by kernel_rfl) rfl rfl ?_)
    refine Pw.re (d := 35) (v' := vtV v) rfl rfl ?_
    refine Pw.list (Pw.alloc rfl rfl rfl rfl rfl (fun g5 => ?_))
    repeat (first | (with_reducible first | refine Pw.seq ?_ | refine Pw.region ?_ | refine Pw.nil ?_ | refine Pw.then_ ?_ | refine Pw.skip ?_ | refine Pw.block ?_ | refine Pw.exit ?_ | refine Pw.inX ?_ | refine Pw.inN ?_ | refine Pw.inR ?_ | refine Pw.thenX ?_ | refine Pw.thenR ?_ | refine Pw.ret ?_) | refine Pw.list (Pw.pure rfl rfl rfl ?_) | refine Pw.inY rfl ?_ | refine Pw.list (Pw.off rfl rfl ?_) | refine Pw.condT rfl ?_ | refine Pw.condF rfl ?_ | refine Pw.list (Pw.box rfl rfl rfl rfl (fun _ => ?_)) | refine Pw.list (Pw.alloc rfl rfl rfl rfl rfl (fun _ => ?_)) | refine Pw.list (Pw.build rfl rfl rfl rfl ?_) | refine Pw.list (Pw.ld rfl inferInstance rfl rfl rfl ?_) | refine Pw.list (Pw.sto rfl rfl inferInstance rfl rfl rfl rfl rfl inferInstance rfl ?_))
    refine freeHead ?_
    refine Pw.split 39 rfl (fun c4 => ?_) (fun c4 => ?_)
    · repeat (first | (with_reducible first | refine Pw.seq ?_ | refine Pw.region ?_ | refine Pw.nil ?_ | refine Pw.then_ ?_ | refine Pw.skip ?_ | refine Pw.block ?_ | refine Pw.exit ?_ | refine Pw.inX ?_ | refine Pw.inN ?_ | refine Pw.inR ?_ | refine Pw.thenX ?_ | refine Pw.thenR ?_ | refine Pw.ret ?_) | refine Pw.list (Pw.pure rfl rfl rfl ?_) | refine Pw.inY rfl ?_ | refine Pw.list (Pw.off rfl rfl ?_) | refine Pw.condT rfl ?_ | refine Pw.condF rfl ?_ | refine Pw.list (Pw.box rfl rfl rfl rfl (fun _ => ?_)) | refine Pw.list (Pw.alloc rfl rfl rfl rfl rfl (fun _ => ?_)) | refine Pw.list (Pw.build rfl rfl rfl rfl ?_) | refine Pw.list (Pw.ld rfl inferInstance rfl rfl rfl ?_) | refine Pw.list (Pw.sto rfl rfl inferInstance rfl rfl rfl rfl rfl inferInstance rfl ?_))
      exact Pw.ret_ (x := ()) (.tmp rfl .nil) (congrArg Value.bool (formB_v hlt (vOk_no hvi (by omega))).symm) trivial (fun w h => by trivial)
    repeat (first | (with_reducible first | refine Pw.seq ?_ | refine Pw.region ?_ | refine Pw.nil ?_ | refine Pw.then_ ?_ | refine Pw.skip ?_ | refine Pw.block ?_ | refine Pw.exit ?_ | refine Pw.inX ?_ | refine Pw.inN ?_ | refine Pw.inR ?_ | refine Pw.thenX ?_ | refine Pw.thenR ?_ | refine Pw.ret ?_) | refine Pw.list (Pw.pure rfl rfl rfl ?_) | refine Pw.inY rfl ?_ | refine Pw.list (Pw.off rfl rfl ?_) | refine Pw.condT rfl ?_ | refine Pw.condF rfl ?_ | refine Pw.list (Pw.box rfl rfl rfl rfl (fun _ => ?_)) | refine Pw.list (Pw.alloc rfl rfl rfl rfl rfl (fun _ => ?_)) | refine Pw.list (Pw.build rfl rfl rfl rfl ?_) | refine Pw.list (Pw.ld rfl inferInstance rfl rfl rfl ?_) | refine Pw.list (Pw.sto rfl rfl inferInstance rfl rfl rfl rfl rfl inferInstance rfl ?_))
    refine Pw.split 44 rfl (fun c5 => ?_) (fun c5 => ?_)
    · repeat (first | (with_reducible first | refine Pw.seq ?_ | refine Pw.region ?_ | refine Pw.nil ?_ | refine Pw.then_ ?_ | refine Pw.skip ?_ | refine Pw.block ?_ | refine Pw.exit ?_ | refine Pw.inX ?_ | refine Pw.inN ?_ | refine Pw.inR ?_ | refine Pw.thenX ?_ | refine Pw.thenR ?_ | refine Pw.ret ?_) | refine Pw.list (Pw.pure rfl rfl rfl ?_) | refine Pw.inY rfl ?_ | refine Pw.list (Pw.off rfl rfl ?_) | refine Pw.condT rfl ?_ | refine Pw.condF rfl ?_ | refine Pw.list (Pw.box rfl rfl rfl rfl (fun _ => ?_)) | refine Pw.list (Pw.alloc rfl rfl rfl rfl rfl (fun _ => ?_)) | refine Pw.list (Pw.build rfl rfl rfl rfl ?_) | refine Pw.list (Pw.ld rfl inferInstance rfl rfl rfl ?_) | refine Pw.list (Pw.sto rfl rfl inferInstance rfl rfl rfl rfl rfl inferInstance rfl ?_))
      exact Pw.ret_ (x := ()) (.tmp rfl .nil) (congrArg Value.bool (formB_v hlt (vOk_no hvi (by omega))).symm) trivial (fun w h => by trivial)
    repeat (first | (with_reducible first | refine Pw.seq ?_ | refine Pw.region ?_ | refine Pw.nil ?_ | refine Pw.then_ ?_ | refine Pw.skip ?_ | refine Pw.block ?_ | refine Pw.exit ?_ | refine Pw.inX ?_ | refine Pw.inN ?_ | refine Pw.inR ?_ | refine Pw.thenX ?_ | refine Pw.thenR ?_ | refine Pw.ret ?_) | refine Pw.list (Pw.pure rfl rfl rfl ?_) | refine Pw.inY rfl ?_ | refine Pw.list (Pw.off rfl rfl ?_) | refine Pw.condT rfl ?_ | refine Pw.condF rfl ?_ | refine Pw.list (Pw.box rfl rfl rfl rfl (fun _ => ?_)) | refine Pw.list (Pw.alloc rfl rfl rfl rfl rfl (fun _ => ?_)) | refine Pw.list (Pw.build rfl rfl rfl rfl ?_) | refine Pw.list (Pw.ld rfl inferInstance rfl rfl rfl ?_) | refine Pw.list (Pw.sto rfl rfl inferInstance rfl rfl rfl rfl rfl inferInstance rfl ?_))
    refine Pw.split 50 rfl (fun c6 => ?_) (fun c6 => ?_)
    · repeat (first | (with_reducible first | refine Pw.seq ?_ | refine Pw.region ?_ | refine Pw.nil ?_ | refine Pw.then_ ?_ | refine Pw.skip ?_ | refine Pw.block ?_ | refine Pw.exit ?_ | refine Pw.inX ?_ | refine Pw.inN ?_ | refine Pw.inR ?_ | refine Pw.thenX ?_ | refine Pw.thenR ?_ | refine Pw.ret ?_) | refine Pw.list (Pw.pure rfl rfl rfl ?_) | refine Pw.inY rfl ?_ | refine Pw.list (Pw.off rfl rfl ?_) | refine Pw.condT rfl ?_ | refine Pw.condF rfl ?_ | refine Pw.list (Pw.box rfl rfl rfl rfl (fun _ => ?_)) | refine Pw.list (Pw.alloc rfl rfl rfl rfl rfl (fun _ => ?_)) | refine Pw.list (Pw.build rfl rfl rfl rfl ?_) | refine Pw.list (Pw.ld rfl inferInstance rfl rfl rfl ?_) | refine Pw.list (Pw.sto rfl rfl inferInstance rfl rfl rfl rfl rfl inferInstance rfl ?_))
      exact Pw.ret_ (x := ()) (.tmp rfl .nil) (congrArg Value.bool (formB_v hlt (vOk_no hvi (by omega))).symm) trivial (fun w h => by trivial)
    repeat (first | (with_reducible first | refine Pw.seq ?_ | refine Pw.region ?_ | refine Pw.nil ?_ | refine Pw.then_ ?_ | refine Pw.skip ?_ | refine Pw.block ?_ | refine Pw.exit ?_ | refine Pw.inX ?_ | refine Pw.inN ?_ | refine Pw.inR ?_ | refine Pw.thenX ?_ | refine Pw.thenR ?_ | refine Pw.ret ?_) | refine Pw.list (Pw.pure rfl rfl rfl ?_) | refine Pw.inY rfl ?_ | refine Pw.list (Pw.off rfl rfl ?_) | refine Pw.condT rfl ?_ | refine Pw.condF rfl ?_ | refine Pw.list (Pw.box rfl rfl rfl rfl (fun _ => ?_)) | refine Pw.list (Pw.alloc rfl rfl rfl rfl rfl (fun _ => ?_)) | refine Pw.list (Pw.build rfl rfl rfl rfl ?_) | refine Pw.list (Pw.ld rfl inferInstance rfl rfl rfl ?_) | refine Pw.list (Pw.sto rfl rfl inferInstance rfl rfl rfl rfl rfl inferInstance rfl ?_))
    refine Pw.list (Pw.call (rrising_ct v.pk v.z) rfl rfl rfl (by kernel_rfl) rfl rfl (fun w h => (hv w h : heldV v w)) ?_)
    intro _ _
    cases hr2 : risB v.pk
    · repeat (first | (with_reducible first | refine Pw.seq ?_ | refine Pw.region ?_ | refine Pw.nil ?_ | refine Pw.then_ ?_ | refine Pw.skip ?_ | refine Pw.block ?_ | refine Pw.exit ?_ | refine Pw.inX ?_ | refine Pw.inN ?_ | refine Pw.inR ?_ | refine Pw.thenX ?_ | refine Pw.thenR ?_ | refine Pw.ret ?_) | refine Pw.list (Pw.pure rfl rfl rfl ?_) | refine Pw.inY rfl ?_ | refine Pw.list (Pw.off rfl rfl ?_) | refine Pw.condT rfl ?_ | refine Pw.condF rfl ?_ | refine Pw.list (Pw.box rfl rfl rfl rfl (fun _ => ?_)) | refine Pw.list (Pw.alloc rfl rfl rfl rfl rfl (fun _ => ?_)) | refine Pw.list (Pw.build rfl rfl rfl rfl ?_) | refine Pw.list (Pw.ld rfl inferInstance rfl rfl rfl ?_) | refine Pw.list (Pw.sto rfl rfl inferInstance rfl rfl rfl rfl rfl inferInstance rfl ?_))
      exact Pw.ret_ (x := ()) (.tmp rfl .nil) (congrArg Value.bool (formB_v hlt (vOk_no hvi (by simp [hr2]))).symm) trivial (fun w h => by trivial)
    repeat (first | (with_reducible first | refine Pw.seq ?_ | refine Pw.region ?_ | refine Pw.nil ?_ | refine Pw.then_ ?_ | refine Pw.skip ?_ | refine Pw.block ?_ | refine Pw.exit ?_ | refine Pw.inX ?_ | refine Pw.inN ?_ | refine Pw.inR ?_ | refine Pw.thenX ?_ | refine Pw.thenR ?_ | refine Pw.ret ?_) | refine Pw.list (Pw.pure rfl rfl rfl ?_) | refine Pw.inY rfl ?_ | refine Pw.list (Pw.off rfl rfl ?_) | refine Pw.condT rfl ?_ | refine Pw.condF rfl ?_ | refine Pw.list (Pw.box rfl rfl rfl rfl (fun _ => ?_)) | refine Pw.list (Pw.alloc rfl rfl rfl rfl rfl (fun _ => ?_)) | refine Pw.list (Pw.build rfl rfl rfl rfl ?_) | refine Pw.list (Pw.ld rfl inferInstance rfl rfl rfl ?_) | refine Pw.list (Pw.sto rfl rfl inferInstance rfl rfl rfl rfl rfl inferInstance rfl ?_))
    refine Pw.loopJ (σ := Nat) (fun k => k ≤ i ∧ ¬ v.id ∈ idsOf (vs.take k)) (fun k => ⟨[(1, .pointer (some ⟨g1, 0, none⟩)), (3, gv q i), (5, .pointer (some ⟨g5, 0, none⟩)), (27, .int .i64 vs.length), (28, .int .i64 i), (56, .int .i64 i), (57, .int .i64 k)], gL1 q ((stL (vs.take i)).map (Value.int .u64)) 42, [fun W => W.heap[g1]? = some (row [.slice (some ad) vs.length c, sl cs zc] 25), VS vs (some ad, c), fun W => W.heap[g5]? = some (row [.int .i64 v.id, .int .u64 v.st, sl v.pk v.z] 44)]⟩) (fun k => i - k) 0 ⟨Nat.zero_le _, by simp [idsOf]⟩ (Pw.enter ⟨rfl, rfl, rfl, rfl, rfl, rfl, rfl, trivial⟩ (fun w h => allCons (by first | exact fact0 (h) | exact fact0 (allTail (h)) | exact fact0 (allTail (allTail (h))) | exact fact0 (allTail (allTail (allTail (h)))) | exact fact0 (allTail (allTail (allTail (allTail (h))))) | exact fact0 (allTail (allTail (allTail (allTail (allTail (h)))))) | exact fact0 (allTail (allTail (allTail (allTail (allTail (allTail (h))))))) | exact fact0 (allTail (allTail (allTail (allTail (allTail (allTail (allTail (h)))))))) | exact fact0 (allTail (allTail (allTail (allTail (allTail (allTail (allTail (allTail (h))))))))) | exact fact0 (allTail (allTail (allTail (allTail (allTail (allTail (allTail (allTail (allTail (h))))))))))) (allCons (hv w h) (allCons (by first | exact fact0 (h) | exact fact0 (allTail (h)) | exact fact0 (allTail (allTail (h))) | exact fact0 (allTail (allTail (allTail (h)))) | exact fact0 (allTail (allTail (allTail (allTail (h))))) | exact fact0 (allTail (allTail (allTail (allTail (allTail (h)))))) | exact fact0 (allTail (allTail (allTail (allTail (allTail (allTail (h))))))) | exact fact0 (allTail (allTail (allTail (allTail (allTail (allTail (allTail (h)))))))) | exact fact0 (allTail (allTail (allTail (allTail (allTail (allTail (allTail (allTail (h))))))))) | exact fact0 (allTail (allTail (allTail (allTail (allTail (allTail (allTail (allTail (allTail (h))))))))))) allNil)))) ?_
    rintro k ⟨hk, hnk⟩
    dsimp only at hk hnk ⊢
    repeat (first | (with_reducible first | refine Pw.seq ?_ | refine Pw.region ?_ | refine Pw.nil ?_ | refine Pw.then_ ?_ | refine Pw.skip ?_ | refine Pw.block ?_ | refine Pw.exit ?_ | refine Pw.inX ?_ | refine Pw.inN ?_ | refine Pw.inR ?_ | refine Pw.thenX ?_ | refine Pw.thenR ?_ | refine Pw.ret ?_) | refine Pw.list (Pw.pure rfl rfl rfl ?_) | refine Pw.inY rfl ?_ | refine Pw.list (Pw.off rfl rfl ?_) | refine Pw.condT rfl ?_ | refine Pw.condF rfl ?_)
    refine Pw.condD rfl (fun c7 => ?_) (fun c7 => ?_)
    · have hk0 : (0 : Int) ≤ (k : Int) := Int.natCast_nonneg k
      have hk1 : (k : Int) < ((vs.length : Nat) : Int) := by omega
      obtain ⟨u, hu, _⟩ := get_at (show k < vs.length by omega)
      have e1 := idsOf_snoc hu
      repeat (first | (with_reducible first | refine Pw.seq ?_ | refine Pw.region ?_ | refine Pw.nil ?_ | refine Pw.then_ ?_ | refine Pw.skip ?_ | refine Pw.block ?_ | refine Pw.exit ?_ | refine Pw.inX ?_ | refine Pw.inN ?_ | refine Pw.inR ?_ | refine Pw.thenX ?_ | refine Pw.thenR ?_ | refine Pw.ret ?_) | refine Pw.list (Pw.pure rfl rfl rfl ?_) | refine Pw.inY rfl ?_ | refine Pw.list (Pw.off rfl rfl ?_) | refine Pw.condT rfl ?_ | refine Pw.condF rfl ?_ | refine Pw.list (Pw.box rfl rfl rfl rfl (fun _ => ?_)) | refine Pw.list (Pw.alloc rfl rfl rfl rfl rfl (fun _ => ?_)) | refine Pw.list (Pw.build rfl rfl rfl rfl ?_) | refine Pw.list (Pw.ld rfl inferInstance rfl rfl rfl ?_) | refine Pw.list (Pw.sto rfl rfl inferInstance rfl rfl rfl rfl rfl inferInstance rfl ?_))
      refine Pw.drawnG mixed rfl rfl ?_
      refine Pw.takeP 0 (nb 9 1) rfl rfl rfl rfl (by kernel_rfl) np sf ?_
      refine Pw.takeF 1 (nb 9 3) rfl rfl inferInstance rfl rfl rfl (by kernel_rfl) np sf ?_
      refine Pw.takeP 2 (nb 9 7) rfl rfl rfl rfl (by kernel_rfl) np sf ?_
      refine Pw.takeIx 3 (nb 9 15) rfl rfl rfl rfl rfl (by first | assumption | omega) (by first | assumption | omega) rfl rfl (by kernel_rfl) np sf ?_
      refine Pw.takeFS 4 (nb 9 31) rfl rfl rfl rfl rfl rfl rfl rfl (by kernel_rfl) np sf ?_
      refine Pw.takeLF u 5 (nb 9 63) rfl rfl inferInstance rfl (by first | assumption | (rw [Int.toNat_natCast]; assumption)) rfl rfl rfl rfl (by kernel_rfl) np sf ?_
      refine Pw.takeP 6 (nb 9 127) rfl rfl rfl rfl (by kernel_rfl) np sf ?_
      refine Pw.takeF 7 (nb 9 255) rfl rfl inferInstance rfl rfl rfl (by kernel_rfl) np sf ?_
      refine Pw.takeP 8 (nb 9 511) rfl rfl rfl rfl (by kernel_rfl) np sf ?_
      refine Pw.done (by kernel_rfl) ?_
      repeat (first | (with_reducible first | refine Pw.seq ?_ | refine Pw.region ?_ | refine Pw.nil ?_ | refine Pw.then_ ?_ | refine Pw.skip ?_ | refine Pw.block ?_ | refine Pw.exit ?_ | refine Pw.inX ?_ | refine Pw.inN ?_ | refine Pw.inR ?_ | refine Pw.thenX ?_ | refine Pw.thenR ?_ | refine Pw.ret ?_) | refine Pw.list (Pw.pure rfl rfl rfl ?_) | refine Pw.inY rfl ?_ | refine Pw.list (Pw.off rfl rfl ?_) | refine Pw.condT rfl ?_ | refine Pw.condF rfl ?_ | refine Pw.list (Pw.box rfl rfl rfl rfl (fun _ => ?_)) | refine Pw.list (Pw.alloc rfl rfl rfl rfl rfl (fun _ => ?_)) | refine Pw.list (Pw.build rfl rfl rfl rfl ?_) | refine Pw.list (Pw.ld rfl inferInstance rfl rfl rfl ?_) | refine Pw.list (Pw.sto rfl rfl inferInstance rfl rfl rfl rfl rfl inferInstance rfl ?_))
      refine Pw.condD rfl (fun c8 => ?_) (fun c8 => ?_)
      · repeat (first | (with_reducible first | refine Pw.seq ?_ | refine Pw.region ?_ | refine Pw.nil ?_ | refine Pw.then_ ?_ | refine Pw.skip ?_ | refine Pw.block ?_ | refine Pw.exit ?_ | refine Pw.inX ?_ | refine Pw.inN ?_ | refine Pw.inR ?_ | refine Pw.thenX ?_ | refine Pw.thenR ?_ | refine Pw.ret ?_) | refine Pw.list (Pw.pure rfl rfl rfl ?_) | refine Pw.inY rfl ?_ | refine Pw.list (Pw.off rfl rfl ?_) | refine Pw.condT rfl ?_ | refine Pw.condF rfl ?_ | refine Pw.list (Pw.box rfl rfl rfl rfl (fun _ => ?_)) | refine Pw.list (Pw.alloc rfl rfl rfl rfl rfl (fun _ => ?_)) | refine Pw.list (Pw.build rfl rfl rfl rfl ?_) | refine Pw.list (Pw.ld rfl inferInstance rfl rfl rfl ?_) | refine Pw.list (Pw.sto rfl rfl inferInstance rfl rfl rfl rfl rfl inferInstance rfl ?_))
        have hin : v.id ∈ idsOf (vs.take i) := by
          rw [show vs.take i = vs.take (k + 1) ++ (vs.take i).drop (k + 1) by
            conv => lhs; rw [← List.take_append_drop (k + 1) (vs.take i)]
            rw [List.take_take, Nat.min_eq_left (by omega)]]
          unfold idsOf at e1 ⊢
          rw [List.map_append, e1, ← c8]
          simp
        exact Pw.ret_ (x := ()) (.tmp rfl .nil) (congrArg Value.bool (formB_v hlt (vOk_no hvi (by simp [hin]))).symm) trivial (fun w h => by trivial)
      repeat (first | (with_reducible first | refine Pw.seq ?_ | refine Pw.region ?_ | refine Pw.nil ?_ | refine Pw.then_ ?_ | refine Pw.skip ?_ | refine Pw.block ?_ | refine Pw.exit ?_ | refine Pw.inX ?_ | refine Pw.inN ?_ | refine Pw.inR ?_ | refine Pw.thenX ?_ | refine Pw.thenR ?_ | refine Pw.ret ?_) | refine Pw.list (Pw.pure rfl rfl rfl ?_) | refine Pw.inY rfl ?_ | refine Pw.list (Pw.off rfl rfl ?_) | refine Pw.condT rfl ?_ | refine Pw.condF rfl ?_ | refine Pw.list (Pw.box rfl rfl rfl rfl (fun _ => ?_)) | refine Pw.list (Pw.alloc rfl rfl rfl rfl rfl (fun _ => ?_)) | refine Pw.list (Pw.build rfl rfl rfl rfl ?_) | refine Pw.list (Pw.ld rfl inferInstance rfl rfl rfl ?_) | refine Pw.list (Pw.sto rfl rfl inferInstance rfl rfl rfl rfl rfl inferInstance rfl ?_))
      refine Pw.re (d := 57) (v' := .int .i64 ((k + 1 : Nat) : Int)) rfl (congrArg (Value.int .i64) (i64s (by omega) htop)) ?_
      exact Pw.again (k + 1) ⟨by omega, by rw [e1, List.mem_append, List.mem_singleton]; exact fun h => h.elim hnk (fun e => c8 e.symm)⟩ (by show i - (k + 1) < i - k; omega) ⟨rfl, rfl, rfl, rfl, rfl, rfl, rfl, trivial⟩ rfl (fun w h => h)
    · obtain rfl : k = i := by omega
      repeat (first | (with_reducible first | refine Pw.seq ?_ | refine Pw.region ?_ | refine Pw.nil ?_ | refine Pw.then_ ?_ | refine Pw.skip ?_ | refine Pw.block ?_ | refine Pw.exit ?_ | refine Pw.inX ?_ | refine Pw.inN ?_ | refine Pw.inR ?_ | refine Pw.thenX ?_ | refine Pw.thenR ?_ | refine Pw.ret ?_) | refine Pw.list (Pw.pure rfl rfl rfl ?_) | refine Pw.inY rfl ?_ | refine Pw.list (Pw.off rfl rfl ?_) | refine Pw.condT rfl ?_ | refine Pw.condF rfl ?_ | refine Pw.list (Pw.box rfl rfl rfl rfl (fun _ => ?_)) | refine Pw.list (Pw.alloc rfl rfl rfl rfl rfl (fun _ => ?_)) | refine Pw.list (Pw.build rfl rfl rfl rfl ?_) | refine Pw.list (Pw.ld rfl inferInstance rfl rfl rfl ?_) | refine Pw.list (Pw.sto rfl rfl inferInstance rfl rfl rfl rfl rfl inferInstance rfl ?_))
      refine Pw.list (Pw.lit1 rfl rfl rfl rfl rfl rfl rfl rfl rfl (fun g2 => ?_))
      refine freeHead ?_
      refine Pw.list (Pw.push (s := q) (news := [.int .u64 v.st]) rfl rfl rfl rfl rfl rfl rfl hq rfl (fun u hu => by rw [List.mem_singleton.1 hu]; rfl) (fun w hs j u hu => by
        have h1 : w.heap[g2]? = some (row [.int .u64 v.st] 42) := fact0 hs.all
        rw [add_none, cell_of_blk h1]
        simpa using hu) (by omega) (by simp only [maxLen]; omega) (by show (k + 1) * 8 ≤ _; omega) rfl rfl (fun q' hq' => ?_))
      repeat (first | (with_reducible first | refine Pw.seq ?_ | refine Pw.region ?_ | refine Pw.nil ?_ | refine Pw.then_ ?_ | refine Pw.skip ?_ | refine Pw.block ?_ | refine Pw.exit ?_ | refine Pw.inX ?_ | refine Pw.inN ?_ | refine Pw.inR ?_ | refine Pw.thenX ?_ | refine Pw.thenR ?_ | refine Pw.ret ?_) | refine Pw.list (Pw.pure rfl rfl rfl ?_) | refine Pw.inY rfl ?_ | refine Pw.list (Pw.off rfl rfl ?_) | refine Pw.condT rfl ?_ | refine Pw.condF rfl ?_ | refine Pw.list (Pw.box rfl rfl rfl rfl (fun _ => ?_)) | refine Pw.list (Pw.alloc rfl rfl rfl rfl rfl (fun _ => ?_)) | refine Pw.list (Pw.build rfl rfl rfl rfl ?_) | refine Pw.list (Pw.ld rfl inferInstance rfl rfl rfl ?_) | refine Pw.list (Pw.sto rfl rfl inferInstance rfl rfl rfl rfl rfl inferInstance rfl ?_))
      refine Pw.re (d := 28) (v' := .int .i64 ((k + 1 : Nat) : Int)) rfl (congrArg (Value.int .i64) (i64s (by omega) htop)) ?_
      have e1 : (stL (vs.take k)).map (Value.int .u64) ++ [.int .u64 v.st] = (stL (vs.take (k + 1))).map (Value.int .u64) := by rw [stL_snoc hvi]; simp
      rw [e1] at hq' ⊢
      exact Pw.again (k + 1, q') ⟨by show k + 1 ≤ vs.length; omega, fun j h => by
        rcases Nat.lt_or_ge j k with h' | h'
        · exact hj j h'
        · obtain rfl : j = k := by have : j < k + 1 := h; omega
          intro u hu
          rw [hvi] at hu
          cases hu
          exact ⟨hnk, by omega, by omega, by omega, hr2⟩, hq'⟩ (by show vs.length - (k + 1) < vs.length - k; omega) ⟨rfl, rfl, rfl, rfl, trivial⟩ rfl (fun w h => allCons (by first | exact fact0 (h) | exact fact0 (allTail (h)) | exact fact0 (allTail (allTail (h))) | exact fact0 (allTail (allTail (allTail (h)))) | exact fact0 (allTail (allTail (allTail (allTail (h))))) | exact fact0 (allTail (allTail (allTail (allTail (allTail (h)))))) | exact fact0 (allTail (allTail (allTail (allTail (allTail (allTail (h))))))) | exact fact0 (allTail (allTail (allTail (allTail (allTail (allTail (allTail (h)))))))) | exact fact0 (allTail (allTail (allTail (allTail (allTail (allTail (allTail (allTail (h))))))))) | exact fact0 (allTail (allTail (allTail (allTail (allTail (allTail (allTail (allTail (allTail (h))))))))))) (allCons (hv w h) allNil))
  · obtain rfl : i = vs.length := by omega
    have hb : ∀ n ∈ stL vs, U64 n := fun n hn => by
      obtain ⟨v, hv, rfl⟩ := List.mem_map.1 hn
      exact hW v hv
    rw [List.take_length] at hq ⊢
    refine Pw.freeG hq (fun B cq e hc => ?_)
    rw [e]
    repeat (first | (with_reducible first | refine Pw.seq ?_ | refine Pw.region ?_ | refine Pw.nil ?_ | refine Pw.then_ ?_ | refine Pw.skip ?_ | refine Pw.block ?_ | refine Pw.exit ?_ | refine Pw.inX ?_ | refine Pw.inN ?_ | refine Pw.inR ?_ | refine Pw.thenX ?_ | refine Pw.thenR ?_ | refine Pw.ret ?_) | refine Pw.list (Pw.pure rfl rfl rfl ?_) | refine Pw.inY rfl ?_ | refine Pw.list (Pw.off rfl rfl ?_) | refine Pw.condT rfl ?_ | refine Pw.condF rfl ?_ | refine Pw.list (Pw.box rfl rfl rfl rfl (fun _ => ?_)) | refine Pw.list (Pw.alloc rfl rfl rfl rfl rfl (fun _ => ?_)) | refine Pw.list (Pw.build rfl rfl rfl rfl ?_) | refine Pw.list (Pw.ld rfl inferInstance rfl rfl rfl ?_) | refine Pw.list (Pw.sto rfl rfl inferInstance rfl rfl rfl rfl rfl inferInstance rfl ?_))
    have hsl : (stL vs).length = vs.length := by unfold stL; rw [List.length_map]
    refine Pw.re (d := 77) (v' := sl (stL vs) (B, cq)) rfl (by show Value.slice B vs.length cq = .slice B (stL vs).length cq; rw [hsl]) ?_
    refine Pw.list (Pw.call (rSum_ct (stL vs) (B, cq) hb) rfl rfl rfl (by kernel_rfl) rfl rfl (fun w h => ints_of_cells (by rw [hsl]; exact hc) (by rw [hsl]; simp only [maxLen]; omega) (fact0 h)) ?_)
    intro _ _
    repeat (first | (with_reducible first | refine Pw.seq ?_ | refine Pw.region ?_ | refine Pw.nil ?_ | refine Pw.then_ ?_ | refine Pw.skip ?_ | refine Pw.block ?_ | refine Pw.exit ?_ | refine Pw.inX ?_ | refine Pw.inN ?_ | refine Pw.inR ?_ | refine Pw.thenX ?_ | refine Pw.thenR ?_ | refine Pw.ret ?_) | refine Pw.list (Pw.pure rfl rfl rfl ?_) | refine Pw.inY rfl ?_ | refine Pw.list (Pw.off rfl rfl ?_) | refine Pw.condT rfl ?_ | refine Pw.condF rfl ?_ | refine Pw.list (Pw.box rfl rfl rfl rfl (fun _ => ?_)) | refine Pw.list (Pw.alloc rfl rfl rfl rfl rfl (fun _ => ?_)) | refine Pw.list (Pw.build rfl rfl rfl rfl ?_) | refine Pw.list (Pw.ld rfl inferInstance rfl rfl rfl ?_) | refine Pw.list (Pw.sto rfl rfl inferInstance rfl rfl rfl rfl rfl inferInstance rfl ?_))
    refine Pw.ret_ (x := ()) (.tmp rfl .nil) (congrArg Value.bool ?_) trivial (fun w h => by trivial)
    unfold sumM
    rw [lsum_st]
    by_cases hsum : sumSt vs ≤ 18446744073709551615
    · rw [if_pos hsum]
      exact (formB_yes (s := ⟨vs, (A, c), cs, zc⟩) (by simp only; omega) (by simp only; omega) hr (fun j h => vOk_of1 (fun v hv => (hW v hv).1) hsum h (hj j h))).symm
    · rw [if_neg hsum]
      refine Eq.symm (Bool.eq_false_iff.2 fun hF => hsum (formB_sum hF))
end Go.Proofs.Wk
/- The law GraphSupported walked. -/
namespace Go.Proofs.Wk
open Go.RowKit
set_option maxRecDepth 100000
set_option maxHeartbeats 4000000
attribute [local irreducible] Pw OpG
set_option linter.unusedVariables false
set_option linter.unusedSimpArgs false
theorem Has_ct (l : List Int) (x : Option Addr × Nat) (k : Int) : Ct Try.prog 12 #[sl l x, .int .i64 k] (I1 l x) (fun _ : Unit => .bool (decide (k ∈ l))) Tt (fun _ _ => True) := by
  obtain ⟨A, c⟩ := x
  refine Ct.start Try.func12 rfl rfl (slots_of rfl slots2) (fun D w0 => ?_)
  refine Pw.use (p := l.length ≤ maxLen) (fun w h => (fact0 h).top) (fun htop => ?_)
  have htop := top63 htop
  repeat (first | (with_reducible first | refine Pw.seq ?_ | refine Pw.region ?_ | refine Pw.nil ?_ | refine Pw.then_ ?_ | refine Pw.skip ?_ | refine Pw.block ?_ | refine Pw.exit ?_ | refine Pw.inX ?_ | refine Pw.inN ?_ | refine Pw.inR ?_ | refine Pw.thenX ?_ | refine Pw.thenR ?_ | refine Pw.ret ?_) | refine Pw.list (Pw.pure rfl rfl rfl ?_) | refine Pw.inY rfl ?_ | refine Pw.list (Pw.off rfl rfl ?_) | refine Pw.condT rfl ?_ | refine Pw.condF rfl ?_)
  refine Pw.loopJ (σ := Nat) (fun i => i ≤ l.length ∧ ∀ j, j < i → ∀ y, l[j]? = some y → decide (k = y) = false) (fun i => ⟨[(0, .slice A l.length c), (1, .int .i64 k), (7, .int .i64 l.length), (8, .int .i64 i)], [], [Ints .i64 l A c]⟩) (fun i => l.length - i) 0 ⟨Nat.zero_le _, fun j hj => absurd hj (Nat.not_lt_zero j)⟩ (Pw.enter ⟨rfl, rfl, rfl, rfl, trivial⟩ (fun _ h => h)) ?_
  rintro i ⟨hi, hj⟩
  dsimp only at hi hj ⊢
  repeat (first | (with_reducible first | refine Pw.seq ?_ | refine Pw.region ?_ | refine Pw.nil ?_ | refine Pw.then_ ?_ | refine Pw.skip ?_ | refine Pw.block ?_ | refine Pw.exit ?_ | refine Pw.inX ?_ | refine Pw.inN ?_ | refine Pw.inR ?_ | refine Pw.thenX ?_ | refine Pw.thenR ?_ | refine Pw.ret ?_) | refine Pw.list (Pw.pure rfl rfl rfl ?_) | refine Pw.inY rfl ?_ | refine Pw.list (Pw.off rfl rfl ?_) | refine Pw.condT rfl ?_ | refine Pw.condF rfl ?_)
  refine Pw.condD rfl (fun c3 => ?_) (fun c3 => ?_)
  · obtain ⟨y, hy, hm⟩ := get_at (show i < l.length by omega)
    repeat (first | (with_reducible first | refine Pw.seq ?_ | refine Pw.region ?_ | refine Pw.nil ?_ | refine Pw.then_ ?_ | refine Pw.skip ?_ | refine Pw.block ?_ | refine Pw.exit ?_ | refine Pw.inX ?_ | refine Pw.inN ?_ | refine Pw.inR ?_ | refine Pw.thenX ?_ | refine Pw.thenR ?_ | refine Pw.ret ?_) | refine Pw.list (Pw.pure rfl rfl rfl ?_) | refine Pw.inY rfl ?_ | refine Pw.list (Pw.off rfl rfl ?_) | refine Pw.condT rfl ?_ | refine Pw.condF rfl ?_)
    refine Pw.list (Pw.index rfl rfl rfl rfl (Int.natCast_nonneg i) c3 (fun w h => (fact0 h).has (Int.natCast_nonneg i) c3) rfl rfl ?_)
    rintro ad rfl
    refine Pw.list (Pw.load1 rfl rfl (fun w hs => by first | exact (fact0 hs.all).cell (by first | assumption | omega) (by first | assumption | omega) | exact (fact1 hs.all).cell (by first | assumption | omega) (by first | assumption | omega) | exact (fact2 hs.all).cell (by first | assumption | omega) (by first | assumption | omega) | exact (fact3 hs.all).cell (by first | assumption | omega) (by first | assumption | omega)) rfl rfl ?_)
    rw [get_rd hy]
    repeat (first | (with_reducible first | refine Pw.seq ?_ | refine Pw.region ?_ | refine Pw.nil ?_ | refine Pw.then_ ?_ | refine Pw.skip ?_ | refine Pw.block ?_ | refine Pw.exit ?_ | refine Pw.inX ?_ | refine Pw.inN ?_ | refine Pw.inR ?_ | refine Pw.thenX ?_ | refine Pw.thenR ?_ | refine Pw.ret ?_) | refine Pw.list (Pw.pure rfl rfl rfl ?_) | refine Pw.inY rfl ?_ | refine Pw.list (Pw.off rfl rfl ?_) | refine Pw.condT rfl ?_ | refine Pw.condF rfl ?_)
    refine Pw.condD rfl (fun c4 => ?_) (fun c4 => ?_)
    · subst c4
      repeat (first | (with_reducible first | refine Pw.seq ?_ | refine Pw.region ?_ | refine Pw.nil ?_ | refine Pw.then_ ?_ | refine Pw.skip ?_ | refine Pw.block ?_ | refine Pw.exit ?_ | refine Pw.inX ?_ | refine Pw.inN ?_ | refine Pw.inR ?_ | refine Pw.thenX ?_ | refine Pw.thenR ?_ | refine Pw.ret ?_) | refine Pw.list (Pw.pure rfl rfl rfl ?_) | refine Pw.inY rfl ?_ | refine Pw.list (Pw.off rfl rfl ?_) | refine Pw.condT rfl ?_ | refine Pw.condF rfl ?_)
      exact Pw.ret_ (x := ()) (.tmp rfl .nil) (congrArg Value.bool (decide_eq_true hm).symm) trivial (fun w h => by trivial)
    · repeat (first | (with_reducible first | refine Pw.seq ?_ | refine Pw.region ?_ | refine Pw.nil ?_ | refine Pw.then_ ?_ | refine Pw.skip ?_ | refine Pw.block ?_ | refine Pw.exit ?_ | refine Pw.inX ?_ | refine Pw.inN ?_ | refine Pw.inR ?_ | refine Pw.thenX ?_ | refine Pw.thenR ?_ | refine Pw.ret ?_) | refine Pw.list (Pw.pure rfl rfl rfl ?_) | refine Pw.inY rfl ?_ | refine Pw.list (Pw.off rfl rfl ?_) | refine Pw.condT rfl ?_ | refine Pw.condF rfl ?_)
      refine Pw.re (d := 8) (v' := .int .i64 ((i + 1 : Nat) : Int)) rfl (congrArg (Value.int .i64) (i64s (by omega) htop)) ?_
      exact Pw.again (i + 1) ⟨by omega, below_snoc hj hy (decide_eq_false (fun e => c4 e.symm))⟩ (by show l.length - (i + 1) < l.length - i; omega) ⟨rfl, rfl, rfl, rfl, trivial⟩ rfl (fun w h => h)
  · repeat (first | (with_reducible first | refine Pw.seq ?_ | refine Pw.region ?_ | refine Pw.nil ?_ | refine Pw.then_ ?_ | refine Pw.skip ?_ | refine Pw.block ?_ | refine Pw.exit ?_ | refine Pw.inX ?_ | refine Pw.inN ?_ | refine Pw.inR ?_ | refine Pw.thenX ?_ | refine Pw.thenR ?_ | refine Pw.ret ?_) | refine Pw.list (Pw.pure rfl rfl rfl ?_) | refine Pw.inY rfl ?_ | refine Pw.list (Pw.off rfl rfl ?_) | refine Pw.condT rfl ?_ | refine Pw.condF rfl ?_)
    exact Pw.ret_ (x := ()) (.tmp rfl .nil) (congrArg Value.bool (decide_eq_false (fun hm => by
      obtain ⟨j, hj'⟩ := List.getElem?_of_mem hm
      have := below_all (p := fun y => decide (k = y)) hj (by omega) j k hj'
      simp at this)).symm) trivial (fun w h => by trivial)
theorem Small_ct (s : Sn) : Ct Try.prog 8 #[snV s] (snF s) (fun r : Bool => .bool r) (fun r => r = true → s.vs.length ≤ 100 ∧ s.cs.length ≤ 100) (fun _ _ => True) := by
  obtain ⟨A, cp, hz⟩ : ∃ A cp, s.zv = (A, cp) := ⟨_, _, rfl⟩
  refine Ct.start Try.func8 rfl rfl (slots_of rfl slots1) (fun D w0 => ?_)
  refine Pw.use (p := s.vs.length ≤ maxLen) (fun w h => (hv w h : snF s w).1.top) (fun htop => ?_)
  have htop := top63 htop
  repeat (first | (with_reducible first | refine Pw.seq ?_ | refine Pw.region ?_ | refine Pw.nil ?_ | refine Pw.then_ ?_ | refine Pw.skip ?_ | refine Pw.block ?_ | refine Pw.exit ?_ | refine Pw.inX ?_ | refine Pw.inN ?_ | refine Pw.inR ?_ | refine Pw.thenX ?_ | refine Pw.thenR ?_ | refine Pw.ret ?_) | refine Pw.list (Pw.pure rfl rfl rfl ?_) | refine Pw.inY rfl ?_ | refine Pw.list (Pw.off rfl rfl ?_) | refine Pw.condT rfl ?_ | refine Pw.condF rfl ?_)
  refine Pw.list (Pw.box rfl rfl rfl rfl (fun g1 => freeHead ?_))
  repeat (first | (with_reducible first | refine Pw.seq ?_ | refine Pw.region ?_ | refine Pw.nil ?_ | refine Pw.then_ ?_ | refine Pw.skip ?_ | refine Pw.block ?_ | refine Pw.exit ?_ | refine Pw.inX ?_ | refine Pw.inN ?_ | refine Pw.inR ?_ | refine Pw.thenX ?_ | refine Pw.thenR ?_ | refine Pw.ret ?_) | refine Pw.list (Pw.pure rfl rfl rfl ?_) | refine Pw.inY rfl ?_ | refine Pw.list (Pw.off rfl rfl ?_) | refine Pw.condT rfl ?_ | refine Pw.condF rfl ?_ | refine Pw.list (Pw.box rfl rfl rfl rfl (fun _ => ?_)) | refine Pw.list (Pw.alloc rfl rfl rfl rfl rfl (fun _ => ?_)) | refine Pw.list (Pw.build rfl rfl rfl rfl ?_) | refine Pw.list (Pw.ld rfl inferInstance rfl rfl rfl ?_) | refine Pw.list (Pw.sto rfl rfl inferInstance rfl rfl rfl rfl rfl inferInstance rfl ?_))
  refine Pw.condD rfl (fun c1 => ?_) (fun c1 => ?_)
  · repeat (first | (with_reducible first | refine Pw.seq ?_ | refine Pw.region ?_ | refine Pw.nil ?_ | refine Pw.then_ ?_ | refine Pw.skip ?_ | refine Pw.block ?_ | refine Pw.exit ?_ | refine Pw.inX ?_ | refine Pw.inN ?_ | refine Pw.inR ?_ | refine Pw.thenX ?_ | refine Pw.thenR ?_ | refine Pw.ret ?_) | refine Pw.list (Pw.pure rfl rfl rfl ?_) | refine Pw.inY rfl ?_ | refine Pw.list (Pw.off rfl rfl ?_) | refine Pw.condT rfl ?_ | refine Pw.condF rfl ?_ | refine Pw.list (Pw.box rfl rfl rfl rfl (fun _ => ?_)) | refine Pw.list (Pw.alloc rfl rfl rfl rfl rfl (fun _ => ?_)) | refine Pw.list (Pw.build rfl rfl rfl rfl ?_) | refine Pw.list (Pw.ld rfl inferInstance rfl rfl rfl ?_) | refine Pw.list (Pw.sto rfl rfl inferInstance rfl rfl rfl rfl rfl inferInstance rfl ?_))
    exact Pw.ret_ (x := false) (.tmp rfl .nil) rfl (fun e => by cases e) (fun w h => by trivial)
  repeat (first | (with_reducible first | refine Pw.seq ?_ | refine Pw.region ?_ | refine Pw.nil ?_ | refine Pw.then_ ?_ | refine Pw.skip ?_ | refine Pw.block ?_ | refine Pw.exit ?_ | refine Pw.inX ?_ | refine Pw.inN ?_ | refine Pw.inR ?_ | refine Pw.thenX ?_ | refine Pw.thenR ?_ | refine Pw.ret ?_) | refine Pw.list (Pw.pure rfl rfl rfl ?_) | refine Pw.inY rfl ?_ | refine Pw.list (Pw.off rfl rfl ?_) | refine Pw.condT rfl ?_ | refine Pw.condF rfl ?_ | refine Pw.list (Pw.box rfl rfl rfl rfl (fun _ => ?_)) | refine Pw.list (Pw.alloc rfl rfl rfl rfl rfl (fun _ => ?_)) | refine Pw.list (Pw.build rfl rfl rfl rfl ?_) | refine Pw.list (Pw.ld rfl inferInstance rfl rfl rfl ?_) | refine Pw.list (Pw.sto rfl rfl inferInstance rfl rfl rfl rfl rfl inferInstance rfl ?_))
  refine Pw.loopJ (σ := Nat) (fun i => i ≤ s.vs.length ∧ i ≤ 100) (fun i => ⟨[(1, .pointer (some ⟨g1, 0, none⟩)), (10, .int .i64 s.vs.length), (11, .int .i64 i)], [], [fun W => W.heap[g1]? = some (row [.slice A s.vs.length cp, sl s.cs s.zc] 25), VS s.vs (A, cp)]⟩) (fun i => s.vs.length - i) 0 ⟨Nat.zero_le _, Nat.zero_le _⟩ (Pw.enter ⟨rfl, rfl, rfl, trivial⟩ (fun w h => allCons (by have : w.heap[g1]? = some (row [.slice s.zv.1 s.vs.length s.zv.2, sl s.cs s.zc] 25) := fact0 h; rw [hz] at this; exact this) (allCons (by have := (hv w h : snF s w).1; rw [hz] at this; exact this) allNil))) ?_
  rintro i ⟨hi, hi2⟩
  dsimp only at hi hi2 ⊢
  repeat (first | (with_reducible first | refine Pw.seq ?_ | refine Pw.region ?_ | refine Pw.nil ?_ | refine Pw.then_ ?_ | refine Pw.skip ?_ | refine Pw.block ?_ | refine Pw.exit ?_ | refine Pw.inX ?_ | refine Pw.inN ?_ | refine Pw.inR ?_ | refine Pw.thenX ?_ | refine Pw.thenR ?_ | refine Pw.ret ?_) | refine Pw.list (Pw.pure rfl rfl rfl ?_) | refine Pw.inY rfl ?_ | refine Pw.list (Pw.off rfl rfl ?_) | refine Pw.condT rfl ?_ | refine Pw.condF rfl ?_)
  refine Pw.condD rfl (fun c3 => ?_) (fun c3 => ?_)
  · obtain ⟨v, hvi, hm⟩ := get_at (show i < s.vs.length by omega)
    repeat (first | (with_reducible first | refine Pw.seq ?_ | refine Pw.region ?_ | refine Pw.nil ?_ | refine Pw.then_ ?_ | refine Pw.skip ?_ | refine Pw.block ?_ | refine Pw.exit ?_ | refine Pw.inX ?_ | refine Pw.inN ?_ | refine Pw.inR ?_ | refine Pw.thenX ?_ | refine Pw.thenR ?_ | refine Pw.ret ?_) | refine Pw.list (Pw.pure rfl rfl rfl ?_) | refine Pw.inY rfl ?_ | refine Pw.list (Pw.off rfl rfl ?_) | refine Pw.condT rfl ?_ | refine Pw.condF rfl ?_ | refine Pw.list (Pw.box rfl rfl rfl rfl (fun _ => ?_)) | refine Pw.list (Pw.alloc rfl rfl rfl rfl rfl (fun _ => ?_)) | refine Pw.list (Pw.build rfl rfl rfl rfl ?_) | refine Pw.list (Pw.ld rfl inferInstance rfl rfl rfl ?_) | refine Pw.list (Pw.sto rfl rfl inferInstance rfl rfl rfl rfl rfl inferInstance rfl ?_))
    refine Pw.split 16 rfl (fun c4 => ?_) (fun c4 => ?_)
    · repeat (first | (with_reducible first | refine Pw.seq ?_ | refine Pw.region ?_ | refine Pw.nil ?_ | refine Pw.then_ ?_ | refine Pw.skip ?_ | refine Pw.block ?_ | refine Pw.exit ?_ | refine Pw.inX ?_ | refine Pw.inN ?_ | refine Pw.inR ?_ | refine Pw.thenX ?_ | refine Pw.thenR ?_ | refine Pw.ret ?_) | refine Pw.list (Pw.pure rfl rfl rfl ?_) | refine Pw.inY rfl ?_ | refine Pw.list (Pw.off rfl rfl ?_) | refine Pw.condT rfl ?_ | refine Pw.condF rfl ?_ | refine Pw.list (Pw.box rfl rfl rfl rfl (fun _ => ?_)) | refine Pw.list (Pw.alloc rfl rfl rfl rfl rfl (fun _ => ?_)) | refine Pw.list (Pw.build rfl rfl rfl rfl ?_) | refine Pw.list (Pw.ld rfl inferInstance rfl rfl rfl ?_) | refine Pw.list (Pw.sto rfl rfl inferInstance rfl rfl rfl rfl rfl inferInstance rfl ?_))
      exact Pw.ret_ (x := false) (.tmp rfl .nil) rfl (fun e => by cases e) (fun w h => by trivial)
    repeat (first | (with_reducible first | refine Pw.seq ?_ | refine Pw.region ?_ | refine Pw.nil ?_ | refine Pw.then_ ?_ | refine Pw.skip ?_ | refine Pw.block ?_ | refine Pw.exit ?_ | refine Pw.inX ?_ | refine Pw.inN ?_ | refine Pw.inR ?_ | refine Pw.thenX ?_ | refine Pw.thenR ?_ | refine Pw.ret ?_) | refine Pw.list (Pw.pure rfl rfl rfl ?_) | refine Pw.inY rfl ?_ | refine Pw.list (Pw.off rfl rfl ?_) | refine Pw.condT rfl ?_ | refine Pw.condF rfl ?_ | refine Pw.list (Pw.box rfl rfl rfl rfl (fun _ => ?_)) | refine Pw.list (Pw.alloc rfl rfl rfl rfl rfl (fun _ => ?_)) | refine Pw.list (Pw.build rfl rfl rfl rfl ?_) | refine Pw.list (Pw.ld rfl inferInstance rfl rfl rfl ?_) | refine Pw.list (Pw.sto rfl rfl inferInstance rfl rfl rfl rfl rfl inferInstance rfl ?_))
    refine Pw.list (Pw.index rfl rfl rfl rfl (Int.natCast_nonneg i) c3 (fun w h => (fact1 h).has (Int.natCast_nonneg i) c3) rfl rfl ?_)
    rintro ad rfl
    refine Pw.list (Pw.fieldS rfl rfl rfl rfl rfl rfl rfl ?_)
    refine Pw.list (Pw.loadF v rfl inferInstance rfl (by rw [Int.toNat_natCast]; exact hvi) rfl (by kernel_rfl) rfl rfl ?_)
    repeat (first | (with_reducible first | refine Pw.seq ?_ | refine Pw.region ?_ | refine Pw.nil ?_ | refine Pw.then_ ?_ | refine Pw.skip ?_ | refine Pw.block ?_ | refine Pw.exit ?_ | refine Pw.inX ?_ | refine Pw.inN ?_ | refine Pw.inR ?_ | refine Pw.thenX ?_ | refine Pw.thenR ?_ | refine Pw.ret ?_) | refine Pw.list (Pw.pure rfl rfl rfl ?_) | refine Pw.inY rfl ?_ | refine Pw.list (Pw.off rfl rfl ?_) | refine Pw.condT rfl ?_ | refine Pw.condF rfl ?_ | refine Pw.list (Pw.box rfl rfl rfl rfl (fun _ => ?_)) | refine Pw.list (Pw.alloc rfl rfl rfl rfl rfl (fun _ => ?_)) | refine Pw.list (Pw.build rfl rfl rfl rfl ?_) | refine Pw.list (Pw.ld rfl inferInstance rfl rfl rfl ?_) | refine Pw.list (Pw.sto rfl rfl inferInstance rfl rfl rfl rfl rfl inferInstance rfl ?_))
    refine Pw.condD rfl (fun c5 => ?_) (fun c5 => ?_)
    · repeat (first | (with_reducible first | refine Pw.seq ?_ | refine Pw.region ?_ | refine Pw.nil ?_ | refine Pw.then_ ?_ | refine Pw.skip ?_ | refine Pw.block ?_ | refine Pw.exit ?_ | refine Pw.inX ?_ | refine Pw.inN ?_ | refine Pw.inR ?_ | refine Pw.thenX ?_ | refine Pw.thenR ?_ | refine Pw.ret ?_) | refine Pw.list (Pw.pure rfl rfl rfl ?_) | refine Pw.inY rfl ?_ | refine Pw.list (Pw.off rfl rfl ?_) | refine Pw.condT rfl ?_ | refine Pw.condF rfl ?_ | refine Pw.list (Pw.box rfl rfl rfl rfl (fun _ => ?_)) | refine Pw.list (Pw.alloc rfl rfl rfl rfl rfl (fun _ => ?_)) | refine Pw.list (Pw.build rfl rfl rfl rfl ?_) | refine Pw.list (Pw.ld rfl inferInstance rfl rfl rfl ?_) | refine Pw.list (Pw.sto rfl rfl inferInstance rfl rfl rfl rfl rfl inferInstance rfl ?_))
      exact Pw.ret_ (x := false) (.tmp rfl .nil) rfl (fun e => by cases e) (fun w h => by trivial)
    repeat (first | (with_reducible first | refine Pw.seq ?_ | refine Pw.region ?_ | refine Pw.nil ?_ | refine Pw.then_ ?_ | refine Pw.skip ?_ | refine Pw.block ?_ | refine Pw.exit ?_ | refine Pw.inX ?_ | refine Pw.inN ?_ | refine Pw.inR ?_ | refine Pw.thenX ?_ | refine Pw.thenR ?_ | refine Pw.ret ?_) | refine Pw.list (Pw.pure rfl rfl rfl ?_) | refine Pw.inY rfl ?_ | refine Pw.list (Pw.off rfl rfl ?_) | refine Pw.condT rfl ?_ | refine Pw.condF rfl ?_ | refine Pw.list (Pw.box rfl rfl rfl rfl (fun _ => ?_)) | refine Pw.list (Pw.alloc rfl rfl rfl rfl rfl (fun _ => ?_)) | refine Pw.list (Pw.build rfl rfl rfl rfl ?_) | refine Pw.list (Pw.ld rfl inferInstance rfl rfl rfl ?_) | refine Pw.list (Pw.sto rfl rfl inferInstance rfl rfl rfl rfl rfl inferInstance rfl ?_))
    refine Pw.re (d := 11) (v' := .int .i64 ((i + 1 : Nat) : Int)) rfl (congrArg (Value.int .i64) (i64s (by omega) htop)) ?_
    exact Pw.again (i + 1) ⟨by omega, by omega⟩ (by show s.vs.length - (i + 1) < s.vs.length - i; omega) ⟨rfl, rfl, rfl, trivial⟩ rfl (fun w h => allTail h)
  · repeat (first | (with_reducible first | refine Pw.seq ?_ | refine Pw.region ?_ | refine Pw.nil ?_ | refine Pw.then_ ?_ | refine Pw.skip ?_ | refine Pw.block ?_ | refine Pw.exit ?_ | refine Pw.inX ?_ | refine Pw.inN ?_ | refine Pw.inR ?_ | refine Pw.thenX ?_ | refine Pw.thenR ?_ | refine Pw.ret ?_) | refine Pw.list (Pw.pure rfl rfl rfl ?_) | refine Pw.inY rfl ?_ | refine Pw.list (Pw.off rfl rfl ?_) | refine Pw.condT rfl ?_ | refine Pw.condF rfl ?_)
    exact Pw.ret_ (x := true) (.tmp rfl .nil) rfl (fun _ => ⟨by omega, by omega⟩) (fun w h => by trivial)
end Go.Proofs.Wk
/- The document's snapshots: who approves whom; seats; the total. -/
namespace Go.Proofs.Wk
open Go.RowKit
set_option maxRecDepth 100000
set_option maxHeartbeats 4000000
attribute [local irreducible] Pw OpG
set_option linter.unusedVariables false
set_option linter.unusedSimpArgs false
end Go.Proofs.Wk
/- The document's snapshots: seats; the total. -/
namespace Go.Proofs.Wk
open Go.RowKit
set_option maxRecDepth 100000
set_option maxHeartbeats 4000000
attribute [local irreducible] Pw OpG
set_option linter.unusedVariables false
set_option linter.unusedSimpArgs false
end Go.Proofs.Wk
/- Elections: awake of chapter eleven; the law PhragmenSupports. -/
namespace Go.Proofs.Wk
open Go.RowKit
set_option maxRecDepth 100000
set_option maxHeartbeats 4000000
attribute [local irreducible] Pw OpG
set_option linter.unusedVariables false
set_option linter.unusedSimpArgs false
theorem eawake_ct : Ct Try.prog 7 #[] (fun _ => True) (fun _ : Unit => .bool true) Tt (fun _ _ => True) := by
  refine Ct.start Try.func7 rfl rfl (slots_of rfl slots0) (fun D w0 => ?_)
  repeat (first | (with_reducible first | refine Pw.seq ?_ | refine Pw.region ?_ | refine Pw.nil ?_ | refine Pw.then_ ?_ | refine Pw.skip ?_ | refine Pw.block ?_ | refine Pw.exit ?_ | refine Pw.inX ?_ | refine Pw.inN ?_ | refine Pw.inR ?_ | refine Pw.thenX ?_ | refine Pw.thenR ?_ | refine Pw.ret ?_) | refine Pw.list (Pw.pure rfl rfl rfl ?_) | refine Pw.inY rfl ?_ | refine Pw.list (Pw.off rfl rfl ?_) | refine Pw.condT rfl ?_ | refine Pw.condF rfl ?_ | refine Pw.list (Pw.box rfl rfl rfl rfl (fun _ => ?_)) | refine Pw.list (Pw.alloc rfl rfl rfl rfl rfl (fun _ => ?_)) | refine Pw.list (Pw.build rfl rfl rfl rfl ?_) | refine Pw.list (Pw.ld rfl inferInstance rfl rfl rfl ?_) | refine Pw.list (Pw.sto rfl rfl inferInstance rfl rfl rfl rfl rfl inferInstance rfl ?_))
  refine Pw.list (Pw.lit1 rfl rfl rfl rfl rfl rfl rfl rfl rfl (fun g5 => freeHead ?_))
  repeat (first | (with_reducible first | refine Pw.seq ?_ | refine Pw.region ?_ | refine Pw.nil ?_ | refine Pw.then_ ?_ | refine Pw.skip ?_ | refine Pw.block ?_ | refine Pw.exit ?_ | refine Pw.inX ?_ | refine Pw.inN ?_ | refine Pw.inR ?_ | refine Pw.thenX ?_ | refine Pw.thenR ?_ | refine Pw.ret ?_) | refine Pw.list (Pw.pure rfl rfl rfl ?_) | refine Pw.inY rfl ?_ | refine Pw.list (Pw.off rfl rfl ?_) | refine Pw.condT rfl ?_ | refine Pw.condF rfl ?_ | refine Pw.list (Pw.box rfl rfl rfl rfl (fun _ => ?_)) | refine Pw.list (Pw.alloc rfl rfl rfl rfl rfl (fun _ => ?_)) | refine Pw.list (Pw.build rfl rfl rfl rfl ?_) | refine Pw.list (Pw.ld rfl inferInstance rfl rfl rfl ?_) | refine Pw.list (Pw.sto rfl rfl inferInstance rfl rfl rfl rfl rfl inferInstance rfl ?_))
  refine Pw.list (Pw.lit13 rfl rfl rfl rfl rfl rfl rfl rfl rfl (fun g7 => freeHead ?_))
  repeat (first | (with_reducible first | refine Pw.seq ?_ | refine Pw.region ?_ | refine Pw.nil ?_ | refine Pw.then_ ?_ | refine Pw.skip ?_ | refine Pw.block ?_ | refine Pw.exit ?_ | refine Pw.inX ?_ | refine Pw.inN ?_ | refine Pw.inR ?_ | refine Pw.thenX ?_ | refine Pw.thenR ?_ | refine Pw.ret ?_) | refine Pw.list (Pw.pure rfl rfl rfl ?_) | refine Pw.inY rfl ?_ | refine Pw.list (Pw.off rfl rfl ?_) | refine Pw.condT rfl ?_ | refine Pw.condF rfl ?_ | refine Pw.list (Pw.box rfl rfl rfl rfl (fun _ => ?_)) | refine Pw.list (Pw.alloc rfl rfl rfl rfl rfl (fun _ => ?_)) | refine Pw.list (Pw.build rfl rfl rfl rfl ?_) | refine Pw.list (Pw.ld rfl inferInstance rfl rfl rfl ?_) | refine Pw.list (Pw.sto rfl rfl inferInstance rfl rfl rfl rfl rfl inferInstance rfl ?_))
  refine Pw.list (Pw.lit1 rfl rfl rfl rfl rfl rfl rfl rfl rfl (fun g8 => freeHead ?_))
  repeat (first | (with_reducible first | refine Pw.seq ?_ | refine Pw.region ?_ | refine Pw.nil ?_ | refine Pw.then_ ?_ | refine Pw.skip ?_ | refine Pw.block ?_ | refine Pw.exit ?_ | refine Pw.inX ?_ | refine Pw.inN ?_ | refine Pw.inR ?_ | refine Pw.thenX ?_ | refine Pw.thenR ?_ | refine Pw.ret ?_) | refine Pw.list (Pw.pure rfl rfl rfl ?_) | refine Pw.inY rfl ?_ | refine Pw.list (Pw.off rfl rfl ?_) | refine Pw.condT rfl ?_ | refine Pw.condF rfl ?_ | refine Pw.list (Pw.box rfl rfl rfl rfl (fun _ => ?_)) | refine Pw.list (Pw.alloc rfl rfl rfl rfl rfl (fun _ => ?_)) | refine Pw.list (Pw.build rfl rfl rfl rfl ?_) | refine Pw.list (Pw.ld rfl inferInstance rfl rfl rfl ?_) | refine Pw.list (Pw.sto rfl rfl inferInstance rfl rfl rfl rfl rfl inferInstance rfl ?_))
  refine Pw.list (Pw.call (Elect1_ct (some ⟨g5, 0, none⟩, 1) (some ⟨g7, 0, none⟩, 1) (some ⟨g8, 0, none⟩, 1)) rfl rfl rfl (by kernel_rfl) rfl rfl (fun w h => ⟨rows_of_row (l := [(⟨1, 5, [2], (some ⟨g5, 0, none⟩, 1)⟩ : Vtr)]) (ex := []) (by rw [List.append_nil]; exact fact1 h) (fun y hy => by rw [List.mem_singleton.1 hy]; rfl) (fun y hy => by
    rw [List.mem_singleton.1 hy]
    exact ints_of_row' (l := [2]) (fact2 h) (by simp) (by simp [maxLen])) (by simp) (by simp [maxLen]) (by omega), ints_of_row' (l := [2]) (fact0 h) (by simp) (by simp [maxLen])⟩) ?_)
  rintro ⟨gs, caps, v⟩ _
  repeat (first | (with_reducible first | refine Pw.seq ?_ | refine Pw.region ?_ | refine Pw.nil ?_ | refine Pw.then_ ?_ | refine Pw.skip ?_ | refine Pw.block ?_ | refine Pw.exit ?_ | refine Pw.inX ?_ | refine Pw.inN ?_ | refine Pw.inR ?_ | refine Pw.thenX ?_ | refine Pw.thenR ?_ | refine Pw.ret ?_) | refine Pw.list (Pw.pure rfl rfl rfl ?_) | refine Pw.inY rfl ?_ | refine Pw.list (Pw.off rfl rfl ?_) | refine Pw.condT rfl ?_ | refine Pw.condF rfl ?_ | refine Pw.list (Pw.box rfl rfl rfl rfl (fun _ => ?_)) | refine Pw.list (Pw.alloc rfl rfl rfl rfl rfl (fun _ => ?_)) | refine Pw.list (Pw.build rfl rfl rfl rfl ?_) | refine Pw.list (Pw.ld rfl inferInstance rfl rfl rfl ?_) | refine Pw.list (Pw.sto rfl rfl inferInstance rfl rfl rfl rfl rfl inferInstance rfl ?_))
  refine Pw.list (Pw.indexS rfl rfl rfl rfl (Int.le_refl 0) (by show (0 : Int) < 1; omega) rfl rfl ?_)
  refine Pw.list (Pw.fieldS rfl rfl rfl rfl rfl rfl rfl ?_)
  refine Pw.list (Pw.load1 (v := .int .i64 2) rfl rfl (fun w hs => fact0 hs.all) rfl rfl ?_)
  repeat (first | (with_reducible first | refine Pw.seq ?_ | refine Pw.region ?_ | refine Pw.nil ?_ | refine Pw.then_ ?_ | refine Pw.skip ?_ | refine Pw.block ?_ | refine Pw.exit ?_ | refine Pw.inX ?_ | refine Pw.inN ?_ | refine Pw.inR ?_ | refine Pw.thenX ?_ | refine Pw.thenR ?_ | refine Pw.ret ?_) | refine Pw.list (Pw.pure rfl rfl rfl ?_) | refine Pw.inY rfl ?_ | refine Pw.list (Pw.off rfl rfl ?_) | refine Pw.condT rfl ?_ | refine Pw.condF rfl ?_ | refine Pw.list (Pw.box rfl rfl rfl rfl (fun _ => ?_)) | refine Pw.list (Pw.alloc rfl rfl rfl rfl rfl (fun _ => ?_)) | refine Pw.list (Pw.build rfl rfl rfl rfl ?_) | refine Pw.list (Pw.ld rfl inferInstance rfl rfl rfl ?_) | refine Pw.list (Pw.sto rfl rfl inferInstance rfl rfl rfl rfl rfl inferInstance rfl ?_))
  exact Pw.ret_ (x := ()) (.tmp rfl .nil) rfl trivial (fun w h => by trivial)
end Go.Proofs.Wk
/- Elections: psephoslaw11's Shares and Same walked. -/
namespace Go.Proofs.Wk
open Go.RowKit
set_option maxRecDepth 100000
set_option maxHeartbeats 4000000
attribute [local irreducible] Pw OpG
set_option linter.unusedVariables false
set_option linter.unusedSimpArgs false
theorem sShares_ct (l : List Shr) (x : Option Addr × Nat) (hl : l.length ≤ 2000) : Ct Try.prog 14 #[ssV l x] (SS l x) (fun z : Option Addr × Nat => ssV l z) Tt (fun z => SS l z) := by
  obtain ⟨A, c⟩ := x
  have htop : l.length ≤ 9223372036854775807 := by omega
  refine Ct.start Try.func14 rfl rfl (slots_of rfl slots1) (fun D w0 => ?_)
  repeat (first | (with_reducible first | refine Pw.seq ?_ | refine Pw.region ?_ | refine Pw.nil ?_ | refine Pw.then_ ?_ | refine Pw.skip ?_ | refine Pw.block ?_ | refine Pw.exit ?_ | refine Pw.inX ?_ | refine Pw.inN ?_ | refine Pw.inR ?_ | refine Pw.thenX ?_ | refine Pw.thenR ?_ | refine Pw.ret ?_) | refine Pw.list (Pw.pure rfl rfl rfl ?_) | refine Pw.inY rfl ?_ | refine Pw.list (Pw.off rfl rfl ?_) | refine Pw.condT rfl ?_ | refine Pw.condF rfl ?_ | refine Pw.list (Pw.box rfl rfl rfl rfl (fun _ => ?_)) | refine Pw.list (Pw.alloc rfl rfl rfl rfl rfl (fun _ => ?_)) | refine Pw.list (Pw.build rfl rfl rfl rfl ?_) | refine Pw.list (Pw.ld rfl inferInstance rfl rfl rfl ?_) | refine Pw.list (Pw.sto rfl rfl inferInstance rfl rfl rfl rfl rfl inferInstance rfl ?_))
  refine Pw.loopJ (σ := Nat × Gr) (fun t => t.1 ≤ l.length ∧ gOk t.2 (cellsS (l.take t.1)) t.1 4) (fun t => ⟨[(0, .slice A l.length c), (3, gv t.2 t.1), (6, .int .i64 l.length), (7, .int .i64 t.1)], gL1 t.2 (cellsS (l.take t.1)) 84, [SS l (A, c)]⟩) (fun t => l.length - t.1) (0, none) ⟨Nat.zero_le _, rfl, rfl⟩ (Pw.enter ⟨rfl, rfl, rfl, rfl, trivial⟩ (fun _ h => h)) ?_
  rintro ⟨i, q⟩ ⟨hi, hq⟩
  dsimp only at hi hq ⊢
  repeat (first | (with_reducible first | refine Pw.seq ?_ | refine Pw.region ?_ | refine Pw.nil ?_ | refine Pw.then_ ?_ | refine Pw.skip ?_ | refine Pw.block ?_ | refine Pw.exit ?_ | refine Pw.inX ?_ | refine Pw.inN ?_ | refine Pw.inR ?_ | refine Pw.thenX ?_ | refine Pw.thenR ?_ | refine Pw.ret ?_) | refine Pw.list (Pw.pure rfl rfl rfl ?_) | refine Pw.inY rfl ?_ | refine Pw.list (Pw.off rfl rfl ?_) | refine Pw.condT rfl ?_ | refine Pw.condF rfl ?_ | refine Pw.list (Pw.box rfl rfl rfl rfl (fun _ => ?_)) | refine Pw.list (Pw.alloc rfl rfl rfl rfl rfl (fun _ => ?_)) | refine Pw.list (Pw.build rfl rfl rfl rfl ?_) | refine Pw.list (Pw.ld rfl inferInstance rfl rfl rfl ?_) | refine Pw.list (Pw.sto rfl rfl inferInstance rfl rfl rfl rfl rfl inferInstance rfl ?_))
  refine Pw.condD rfl (fun c3 => ?_) (fun c3 => ?_)
  · obtain ⟨s, hs, hm⟩ := get_at (show i < l.length by omega)
    refine Pw.use (p := A.isSome = true) (fun w h => (fact0 h).has (Int.natCast_nonneg i) c3) (fun hA => ?_)
    obtain ⟨ad, rfl⟩ := Option.isSome_iff_exists.1 hA
    repeat (first | (with_reducible first | refine Pw.seq ?_ | refine Pw.region ?_ | refine Pw.nil ?_ | refine Pw.then_ ?_ | refine Pw.skip ?_ | refine Pw.block ?_ | refine Pw.exit ?_ | refine Pw.inX ?_ | refine Pw.inN ?_ | refine Pw.inR ?_ | refine Pw.thenX ?_ | refine Pw.thenR ?_ | refine Pw.ret ?_) | refine Pw.list (Pw.pure rfl rfl rfl ?_) | refine Pw.inY rfl ?_ | refine Pw.list (Pw.off rfl rfl ?_) | refine Pw.condT rfl ?_ | refine Pw.condF rfl ?_ | refine Pw.list (Pw.box rfl rfl rfl rfl (fun _ => ?_)) | refine Pw.list (Pw.alloc rfl rfl rfl rfl rfl (fun _ => ?_)) | refine Pw.list (Pw.build rfl rfl rfl rfl ?_) | refine Pw.list (Pw.ld rfl inferInstance rfl rfl rfl ?_) | refine Pw.list (Pw.sto rfl rfl inferInstance rfl rfl rfl rfl rfl inferInstance rfl ?_))
    refine Pw.more (fun w h => (((fact0 h : SS l (some ad, c) w).at hs).2.1 : heldS s w)) ?_
    refine Pw.drawnG mixed rfl rfl ?_
    refine Pw.takeP 0 (nb 21 1) rfl rfl rfl rfl (by kernel_rfl) np sf ?_
    refine Pw.takeP 1 (nb 21 3) rfl rfl rfl rfl (by kernel_rfl) np sf ?_
    refine Pw.takeP 2 (nb 21 7) rfl rfl rfl rfl (by kernel_rfl) np sf ?_
    refine Pw.takeIx 3 (nb 21 15) rfl rfl rfl rfl rfl (by first | assumption | omega) (by first | assumption | omega) rfl rfl (by kernel_rfl) np sf ?_
    refine Pw.takeFS 4 (nb 21 31) rfl rfl rfl rfl rfl rfl rfl rfl (by kernel_rfl) np sf ?_
    refine Pw.takeLF s 5 (nb 21 63) rfl rfl inferInstance rfl (by first | assumption | (rw [Int.toNat_natCast]; assumption)) rfl rfl rfl rfl (by kernel_rfl) np sf ?_
    refine Pw.takeP 6 (nb 21 127) rfl rfl rfl rfl (by kernel_rfl) np sf ?_
    refine Pw.takeP 7 (nb 21 255) rfl rfl rfl rfl (by kernel_rfl) np sf ?_
    refine Pw.takeIx 8 (nb 21 511) rfl rfl rfl rfl rfl (by first | assumption | omega) (by first | assumption | omega) rfl rfl (by kernel_rfl) np sf ?_
    refine Pw.takeFS 9 (nb 21 1023) rfl rfl rfl rfl rfl rfl rfl rfl (by kernel_rfl) np sf ?_
    refine Pw.takeLF s 10 (nb 21 2047) rfl rfl inferInstance rfl (by first | assumption | (rw [Int.toNat_natCast]; assumption)) rfl rfl rfl rfl (by kernel_rfl) np sf ?_
    refine Pw.takeP 11 (nb 21 4095) rfl rfl rfl rfl (by kernel_rfl) np sf ?_
    refine Pw.takeP 12 (nb 21 8191) rfl rfl rfl rfl (by kernel_rfl) np sf ?_
    refine Pw.takeIx 13 (nb 21 16383) rfl rfl rfl rfl rfl (by first | assumption | omega) (by first | assumption | omega) rfl rfl (by kernel_rfl) np sf ?_
    refine Pw.takeFS 14 (nb 21 32767) rfl rfl rfl rfl rfl rfl rfl rfl (by kernel_rfl) np sf ?_
    refine Pw.takeLFA s [sl s.a s.z.1, sl s.b s.z.2] 15 (nb 21 65535) rfl rfl inferInstance rfl (by first | assumption | (rw [Int.toNat_natCast]; assumption)) rfl (by kernel_rfl) rfl rfl (by kernel_rfl) np sf ?_
    refine Pw.one 16 (nb 21 131071) rfl (by kernel_rfl) ?_
    -- call Op.call { callee := Callee.value (Operand.func 33), args := #[Operand.tmp 25], argTypes := #[36] }
    refine Pw.call (Ours_ct s.a s.b s.z) rfl rfl rfl (by kernel_rfl) rfl rfl (fun w h => trivial) ?_
    intro _ _
    refine Pw.held sf ?_
    refine Pw.takeBuild 17 (nb 21 262143) rfl rfl rfl rfl rfl (by kernel_rfl) np sf ?_
    refine Pw.one 18 (nb 21 524287) rfl (by kernel_rfl) ?_
    -- eff Op.buildSlice 47 1 #[(0, Operand.tmp 27)]
    refine Pw.lit14 rfl rfl rfl rfl rfl rfl rfl rfl rfl (fun g1 => freeHead ?_)
    refine Pw.held sf ?_
    refine Pw.one 19 (nb 21 1048575) rfl (by kernel_rfl) ?_
    -- call Op.call { callee := Callee.builtin Builtin.append, args := #[Operand.tmp 10, Operand.tmp 28], argTypes := #[47, 47] }
    refine Pw.push (s := q) (m := i) (cells := cellsS (l.take i)) (news := encS s) (L0 := []) rfl rfl rfl rfl rfl rfl rfl hq rfl (encS_one s) (fun w hs j u hu => by
      have h1 : w.heap[g1]? = some (row (encS s) 84) := fact0 hs.all
      rw [add_none, cell_of_blk h1]
      simpa using hu) (by omega) (by simp only [maxLen]; omega) (by show (i + 1) * 64 ≤ _; omega) rfl rfl (fun q' hq' => ?_)
    refine Pw.held sf ?_
    refine Pw.takeP 20 (nb 21 2097151) rfl rfl rfl rfl (by kernel_rfl) np sf ?_
    refine Pw.done (by kernel_rfl) ?_
    rw [← cellsS_snoc, ← take_snoc hs] at hq' ⊢
    repeat (first | (with_reducible first | refine Pw.seq ?_ | refine Pw.region ?_ | refine Pw.nil ?_ | refine Pw.then_ ?_ | refine Pw.skip ?_ | refine Pw.block ?_ | refine Pw.exit ?_ | refine Pw.inX ?_ | refine Pw.inN ?_ | refine Pw.inR ?_ | refine Pw.thenX ?_ | refine Pw.thenR ?_ | refine Pw.ret ?_) | refine Pw.list (Pw.pure rfl rfl rfl ?_) | refine Pw.inY rfl ?_ | refine Pw.list (Pw.off rfl rfl ?_) | refine Pw.condT rfl ?_ | refine Pw.condF rfl ?_ | refine Pw.list (Pw.box rfl rfl rfl rfl (fun _ => ?_)) | refine Pw.list (Pw.alloc rfl rfl rfl rfl rfl (fun _ => ?_)) | refine Pw.list (Pw.build rfl rfl rfl rfl ?_) | refine Pw.list (Pw.ld rfl inferInstance rfl rfl rfl ?_) | refine Pw.list (Pw.sto rfl rfl inferInstance rfl rfl rfl rfl rfl inferInstance rfl ?_))
    refine Pw.re (d := 7) (v' := .int .i64 ((i + 1 : Nat) : Int)) rfl (congrArg (Value.int .i64) (i64s (n := 100000) (by omega) (by omega))) ?_
    exact Pw.again (i + 1, q') ⟨by show i + 1 ≤ l.length; omega, hq'⟩ (by show l.length - (i + 1) < l.length - i; omega) ⟨rfl, rfl, rfl, rfl, trivial⟩ rfl (fun w h => allCons (hv w h) allNil)
  · repeat (first | (with_reducible first | refine Pw.seq ?_ | refine Pw.region ?_ | refine Pw.nil ?_ | refine Pw.then_ ?_ | refine Pw.skip ?_ | refine Pw.block ?_ | refine Pw.exit ?_ | refine Pw.inX ?_ | refine Pw.inN ?_ | refine Pw.inR ?_ | refine Pw.thenX ?_ | refine Pw.thenR ?_ | refine Pw.ret ?_) | refine Pw.list (Pw.pure rfl rfl rfl ?_) | refine Pw.inY rfl ?_ | refine Pw.list (Pw.off rfl rfl ?_) | refine Pw.condT rfl ?_ | refine Pw.condF rfl ?_ | refine Pw.list (Pw.box rfl rfl rfl rfl (fun _ => ?_)) | refine Pw.list (Pw.alloc rfl rfl rfl rfl rfl (fun _ => ?_)) | refine Pw.list (Pw.build rfl rfl rfl rfl ?_) | refine Pw.list (Pw.ld rfl inferInstance rfl rfl rfl ?_) | refine Pw.list (Pw.sto rfl rfl inferInstance rfl rfl rfl rfl rfl inferInstance rfl ?_))
    obtain rfl : i = l.length := by omega
    rw [List.take_length] at hq ⊢
    refine Pw.freeG hq (fun A' c' e hc => ?_)
    rw [e]
    exact Pw.ret_ (x := (A', c')) (.tmp rfl .nil) rfl trivial (fun w h => rows_of_cells (fun _ _ => rfl) (fun y hy => by
      obtain ⟨j, hj⟩ := List.getElem?_of_mem hy
      have h1 : SS l (A, c) w := (hv w h)
      obtain ⟨ad, cs, e1, _, ⟨_, h2⟩, _⟩ := h1.2.2 j y hj
      exact h2) hc (by simp only [maxLen]; omega) (by omega) (fact0 h))
theorem sSame_ct (l m : List Shr) (x y : Option Addr × Nat) (hl : l.length ≤ 2000) (h : l.map shK = m.map shK) (hm : ∀ s ∈ l, Fm s.a ∧ Fm s.b ∧ s.a.length < 1048576 ∧ s.b.length < 1048576) : Ct Try.prog 13 #[ssV l x, ssV m y] (fun W => SS l x W ∧ SS m y W) (fun _ : Unit => .bool true) Tt (fun _ _ => True) := by
  obtain ⟨A, c⟩ := x
  obtain ⟨B, e⟩ := y
  have hlm : m.length = l.length := by have := congrArg List.length h; rw [List.length_map, List.length_map] at this; exact this.symm
  refine Ct.start Try.func13 rfl rfl (slots_of rfl slots2) (fun D w0 => Pw.facts (G' := [SS l (A, c), SS m (B, e)]) (fun w h => allCons (fact0 h).1 (allCons (fact0 h).2 allNil)) ?_)
  repeat (first | (with_reducible first | refine Pw.seq ?_ | refine Pw.region ?_ | refine Pw.nil ?_ | refine Pw.then_ ?_ | refine Pw.skip ?_ | refine Pw.block ?_ | refine Pw.exit ?_ | refine Pw.inX ?_ | refine Pw.inN ?_ | refine Pw.inR ?_ | refine Pw.thenX ?_ | refine Pw.thenR ?_ | refine Pw.ret ?_) | refine Pw.list (Pw.pure rfl rfl rfl ?_) | refine Pw.inY rfl ?_ | refine Pw.list (Pw.off rfl rfl ?_) | refine Pw.condT rfl ?_ | refine Pw.condF rfl ?_ | refine Pw.list (Pw.box rfl rfl rfl rfl (fun _ => ?_)) | refine Pw.list (Pw.alloc rfl rfl rfl rfl rfl (fun _ => ?_)) | refine Pw.list (Pw.build rfl rfl rfl rfl ?_) | refine Pw.list (Pw.ld rfl inferInstance rfl rfl rfl ?_) | refine Pw.list (Pw.sto rfl rfl inferInstance rfl rfl rfl rfl rfl inferInstance rfl ?_))
  refine Pw.re (d := 10) (v' := .bool false) rfl (congrArg Value.bool (decide_eq_false (by omega))) ?_
  repeat (first | (with_reducible first | refine Pw.seq ?_ | refine Pw.region ?_ | refine Pw.nil ?_ | refine Pw.then_ ?_ | refine Pw.skip ?_ | refine Pw.block ?_ | refine Pw.exit ?_ | refine Pw.inX ?_ | refine Pw.inN ?_ | refine Pw.inR ?_ | refine Pw.thenX ?_ | refine Pw.thenR ?_ | refine Pw.ret ?_) | refine Pw.list (Pw.pure rfl rfl rfl ?_) | refine Pw.inY rfl ?_ | refine Pw.list (Pw.off rfl rfl ?_) | refine Pw.condT rfl ?_ | refine Pw.condF rfl ?_ | refine Pw.list (Pw.box rfl rfl rfl rfl (fun _ => ?_)) | refine Pw.list (Pw.alloc rfl rfl rfl rfl rfl (fun _ => ?_)) | refine Pw.list (Pw.build rfl rfl rfl rfl ?_) | refine Pw.list (Pw.ld rfl inferInstance rfl rfl rfl ?_) | refine Pw.list (Pw.sto rfl rfl inferInstance rfl rfl rfl rfl rfl inferInstance rfl ?_))
  refine Pw.loopJ (σ := Nat) (fun i => i ≤ l.length) (fun i => ⟨[(0, .slice A l.length c), (1, .slice B m.length e), (12, .int .i64 l.length), (13, .int .i64 i)], [], [SS l (A, c), SS m (B, e)]⟩) (fun i => l.length - i) 0 (Nat.zero_le _) (Pw.enter ⟨rfl, rfl, rfl, rfl, trivial⟩ (fun _ h => h)) ?_
  rintro i hi
  dsimp only at hi ⊢
  repeat (first | (with_reducible first | refine Pw.seq ?_ | refine Pw.region ?_ | refine Pw.nil ?_ | refine Pw.then_ ?_ | refine Pw.skip ?_ | refine Pw.block ?_ | refine Pw.exit ?_ | refine Pw.inX ?_ | refine Pw.inN ?_ | refine Pw.inR ?_ | refine Pw.thenX ?_ | refine Pw.thenR ?_ | refine Pw.ret ?_) | refine Pw.list (Pw.pure rfl rfl rfl ?_) | refine Pw.inY rfl ?_ | refine Pw.list (Pw.off rfl rfl ?_) | refine Pw.condT rfl ?_ | refine Pw.condF rfl ?_ | refine Pw.list (Pw.box rfl rfl rfl rfl (fun _ => ?_)) | refine Pw.list (Pw.alloc rfl rfl rfl rfl rfl (fun _ => ?_)) | refine Pw.list (Pw.build rfl rfl rfl rfl ?_) | refine Pw.list (Pw.ld rfl inferInstance rfl rfl rfl ?_) | refine Pw.list (Pw.sto rfl rfl inferInstance rfl rfl rfl rfl rfl inferInstance rfl ?_))
  refine Pw.condD rfl (fun c3 => ?_) (fun c3 => ?_)
  · obtain ⟨s, hs, hsm⟩ := get_at (show i < l.length by omega)
    obtain ⟨t, ht, htm⟩ := get_at (show i < m.length by omega)
    have hst : shK s = shK t := by
      have h1 : (l.map shK)[i]? = (m.map shK)[i]? := by rw [h]
      rw [List.getElem?_map, List.getElem?_map, hs, ht] at h1
      exact Option.some.inj h1
    obtain ⟨sv, sc, sa, sb, sz⟩ := s
    obtain ⟨tv, tc, ta, tb, tz⟩ := t
    obtain ⟨rfl, h2⟩ := Prod.mk.inj hst
    obtain ⟨rfl, h2⟩ := Prod.mk.inj h2
    obtain ⟨h2, h3⟩ := Prod.mk.inj h2
    dsimp only at h2 h3
    subst h2 h3
    obtain ⟨m1, m2, m3, m4⟩ := hm _ hsm
    dsimp only at m1 m2 m3 m4
    have hi0 : (0 : Int) ≤ (i : Int) := Int.natCast_nonneg i
    have c4 : (i : Int) < ((m.length : Nat) : Int) := by omega
    refine Pw.use (p := A.isSome = true) (fun w h => (fact0 h).has hi0 c3) (fun hA => ?_)
    obtain ⟨ad, rfl⟩ := Option.isSome_iff_exists.1 hA
    refine Pw.use (p := B.isSome = true) (fun w h => (fact1 h).has hi0 c4) (fun hB => ?_)
    obtain ⟨bd, rfl⟩ := Option.isSome_iff_exists.1 hB
    repeat (first | (with_reducible first | refine Pw.seq ?_ | refine Pw.region ?_ | refine Pw.nil ?_ | refine Pw.then_ ?_ | refine Pw.skip ?_ | refine Pw.block ?_ | refine Pw.exit ?_ | refine Pw.inX ?_ | refine Pw.inN ?_ | refine Pw.inR ?_ | refine Pw.thenX ?_ | refine Pw.thenR ?_ | refine Pw.ret ?_) | refine Pw.list (Pw.pure rfl rfl rfl ?_) | refine Pw.inY rfl ?_ | refine Pw.list (Pw.off rfl rfl ?_) | refine Pw.condT rfl ?_ | refine Pw.condF rfl ?_ | refine Pw.list (Pw.box rfl rfl rfl rfl (fun _ => ?_)) | refine Pw.list (Pw.alloc rfl rfl rfl rfl rfl (fun _ => ?_)) | refine Pw.list (Pw.build rfl rfl rfl rfl ?_) | refine Pw.list (Pw.ld rfl inferInstance rfl rfl rfl ?_) | refine Pw.list (Pw.sto rfl rfl inferInstance rfl rfl rfl rfl rfl inferInstance rfl ?_))
    refine Pw.drawnG mixed rfl rfl ?_
    refine Pw.takeP 0 (nb 38 1) rfl rfl rfl rfl (by kernel_rfl) np sf ?_
    refine Pw.takeP 1 (nb 38 3) rfl rfl rfl rfl (by kernel_rfl) np sf ?_
    refine Pw.takeIx 2 (nb 38 7) rfl rfl rfl rfl rfl (by first | assumption | omega) (by first | assumption | omega) rfl rfl (by kernel_rfl) np sf ?_
    refine Pw.takeFS 3 (nb 38 15) rfl rfl rfl rfl rfl rfl rfl rfl (by kernel_rfl) np sf ?_
    refine Pw.takeLF (Shr.mk sv sc sa sb sz) 4 (nb 38 31) rfl rfl inferInstance rfl (by first | assumption | (rw [Int.toNat_natCast]; assumption)) rfl rfl rfl rfl (by kernel_rfl) np sf ?_
    refine Pw.takeP 5 (nb 38 63) rfl rfl rfl rfl (by kernel_rfl) np sf ?_
    refine Pw.takeP 6 (nb 38 127) rfl rfl rfl rfl (by kernel_rfl) np sf ?_
    refine Pw.takeIx 7 (nb 38 255) rfl rfl rfl rfl rfl (by first | assumption | omega) (by first | assumption | omega) rfl rfl (by kernel_rfl) np sf ?_
    refine Pw.takeFS 8 (nb 38 511) rfl rfl rfl rfl rfl rfl rfl rfl (by kernel_rfl) np sf ?_
    refine Pw.takeLF (Shr.mk sv sc sa sb tz) 9 (nb 38 1023) rfl rfl inferInstance rfl (by first | assumption | (rw [Int.toNat_natCast]; assumption)) rfl rfl rfl rfl (by kernel_rfl) np sf ?_
    refine Pw.takeP 10 (nb 38 2047) rfl rfl rfl rfl (by kernel_rfl) np sf ?_
    refine Pw.takeP 11 (nb 38 4095) rfl rfl rfl rfl (by kernel_rfl) np sf ?_
    refine Pw.re (d := 27) (v' := .bool false) rfl (congrArg Value.bool (decide_eq_false (fun h => h rfl))) ?_
    refine Pw.takeP 12 (nb 38 8191) rfl rfl rfl rfl (by kernel_rfl) np sf ?_
    refine Pw.takeP 13 (nb 38 16383) rfl rfl rfl rfl (by kernel_rfl) np sf ?_
    refine Pw.takeIx 14 (nb 38 32767) rfl rfl rfl rfl rfl (by first | assumption | omega) (by first | assumption | omega) rfl rfl (by kernel_rfl) np sf ?_
    refine Pw.takeFS 15 (nb 38 65535) rfl rfl rfl rfl rfl rfl rfl rfl (by kernel_rfl) np sf ?_
    refine Pw.takeLF (Shr.mk sv sc sa sb sz) 16 (nb 38 131071) rfl rfl inferInstance rfl (by first | assumption | (rw [Int.toNat_natCast]; assumption)) rfl rfl rfl rfl (by kernel_rfl) np sf ?_
    refine Pw.takeP 17 (nb 38 262143) rfl rfl rfl rfl (by kernel_rfl) np sf ?_
    refine Pw.takeP 18 (nb 38 524287) rfl rfl rfl rfl (by kernel_rfl) np sf ?_
    refine Pw.takeIx 19 (nb 38 1048575) rfl rfl rfl rfl rfl (by first | assumption | omega) (by first | assumption | omega) rfl rfl (by kernel_rfl) np sf ?_
    refine Pw.takeFS 20 (nb 38 2097151) rfl rfl rfl rfl rfl rfl rfl rfl (by kernel_rfl) np sf ?_
    refine Pw.takeLF (Shr.mk sv sc sa sb tz) 21 (nb 38 4194303) rfl rfl inferInstance rfl (by first | assumption | (rw [Int.toNat_natCast]; assumption)) rfl rfl rfl rfl (by kernel_rfl) np sf ?_
    refine Pw.takeP 22 (nb 38 8388607) rfl rfl rfl rfl (by kernel_rfl) np sf ?_
    refine Pw.takeP 23 (nb 38 16777215) rfl rfl rfl rfl (by kernel_rfl) np sf ?_
    refine Pw.takeP 24 (nb 38 33554431) rfl rfl rfl rfl (by kernel_rfl) np sf ?_
    refine Pw.re (d := 40) (v' := .bool false) rfl (congrArg Value.bool (decide_eq_false (fun h => h rfl))) ?_
    refine Pw.takeP 25 (nb 38 67108863) rfl rfl rfl rfl (by kernel_rfl) np sf ?_
    refine Pw.takeP 26 (nb 38 134217727) rfl rfl rfl rfl (by kernel_rfl) np sf ?_
    refine Pw.takeIx 27 (nb 38 268435455) rfl rfl rfl rfl rfl (by first | assumption | omega) (by first | assumption | omega) rfl rfl (by kernel_rfl) np sf ?_
    refine Pw.takeFS 28 (nb 38 536870911) rfl rfl rfl rfl rfl rfl rfl rfl (by kernel_rfl) np sf ?_
    refine Pw.takeLFA (Shr.mk sv sc sa sb sz) [sl sa sz.1, sl sb sz.2] 29 (nb 38 1073741823) rfl rfl inferInstance rfl (by first | assumption | (rw [Int.toNat_natCast]; assumption)) rfl (by kernel_rfl) rfl rfl (by kernel_rfl) np sf ?_
    refine Pw.takeP 30 (nb 38 2147483647) rfl rfl rfl rfl (by kernel_rfl) np sf ?_
    refine Pw.takeP 31 (nb 38 4294967295) rfl rfl rfl rfl (by kernel_rfl) np sf ?_
    refine Pw.takeIx 32 (nb 38 8589934591) rfl rfl rfl rfl rfl (by first | assumption | omega) (by first | assumption | omega) rfl rfl (by kernel_rfl) np sf ?_
    refine Pw.takeFS 33 (nb 38 17179869183) rfl rfl rfl rfl rfl rfl rfl rfl (by kernel_rfl) np sf ?_
    refine Pw.takeLFA (Shr.mk sv sc sa sb tz) [sl sa tz.1, sl sb tz.2] 34 (nb 38 34359738367) rfl rfl inferInstance rfl (by first | assumption | (rw [Int.toNat_natCast]; assumption)) rfl (by kernel_rfl) rfl rfl (by kernel_rfl) np sf ?_
    refine Pw.one 35 (nb 38 68719476735) rfl (by kernel_rfl) ?_
    -- call Op.call { callee := Callee.value (Operand.func 20), args := #[Operand.tmp 45, Operand.tmp 50], argTypes := #[36, 62] }
    refine Pw.call (rat_Same_ct sa sb sz tz m1 m2 m3 m4) rfl rfl rfl (by kernel_rfl) rfl rfl (fun w h => ⟨((fact0 h : SS l (some ad, c) w).at hs).2.1, ((fact1 h : SS m (some bd, e) w).at ht).2.1⟩) ?_
    intro _ _
    refine Pw.held sf ?_
    refine Pw.takeP 36 (nb 38 137438953471) rfl rfl rfl rfl (by kernel_rfl) np sf ?_
    refine Pw.takeP 37 (nb 38 274877906943) rfl rfl rfl rfl (by kernel_rfl) np sf ?_
    refine Pw.done (by kernel_rfl) ?_
    repeat (first | (with_reducible first | refine Pw.seq ?_ | refine Pw.region ?_ | refine Pw.nil ?_ | refine Pw.then_ ?_ | refine Pw.skip ?_ | refine Pw.block ?_ | refine Pw.exit ?_ | refine Pw.inX ?_ | refine Pw.inN ?_ | refine Pw.inR ?_ | refine Pw.thenX ?_ | refine Pw.thenR ?_ | refine Pw.ret ?_) | refine Pw.list (Pw.pure rfl rfl rfl ?_) | refine Pw.inY rfl ?_ | refine Pw.list (Pw.off rfl rfl ?_) | refine Pw.condT rfl ?_ | refine Pw.condF rfl ?_ | refine Pw.list (Pw.box rfl rfl rfl rfl (fun _ => ?_)) | refine Pw.list (Pw.alloc rfl rfl rfl rfl rfl (fun _ => ?_)) | refine Pw.list (Pw.build rfl rfl rfl rfl ?_) | refine Pw.list (Pw.ld rfl inferInstance rfl rfl rfl ?_) | refine Pw.list (Pw.sto rfl rfl inferInstance rfl rfl rfl rfl rfl inferInstance rfl ?_))
    refine Pw.re (d := 13) (v' := .int .i64 ((i + 1 : Nat) : Int)) rfl (congrArg (Value.int .i64) (i64s (n := 100000) (by omega) (by omega))) ?_
    exact Pw.again (i + 1) (by show i + 1 ≤ l.length; omega) (by show l.length - (i + 1) < l.length - i; omega) ⟨rfl, rfl, rfl, rfl, trivial⟩ rfl (fun w h => allTail h)
  · repeat (first | (with_reducible first | refine Pw.seq ?_ | refine Pw.region ?_ | refine Pw.nil ?_ | refine Pw.then_ ?_ | refine Pw.skip ?_ | refine Pw.block ?_ | refine Pw.exit ?_ | refine Pw.inX ?_ | refine Pw.inN ?_ | refine Pw.inR ?_ | refine Pw.thenX ?_ | refine Pw.thenR ?_ | refine Pw.ret ?_) | refine Pw.list (Pw.pure rfl rfl rfl ?_) | refine Pw.inY rfl ?_ | refine Pw.list (Pw.off rfl rfl ?_) | refine Pw.condT rfl ?_ | refine Pw.condF rfl ?_ | refine Pw.list (Pw.box rfl rfl rfl rfl (fun _ => ?_)) | refine Pw.list (Pw.alloc rfl rfl rfl rfl rfl (fun _ => ?_)) | refine Pw.list (Pw.build rfl rfl rfl rfl ?_) | refine Pw.list (Pw.ld rfl inferInstance rfl rfl rfl ?_) | refine Pw.list (Pw.sto rfl rfl inferInstance rfl rfl rfl rfl rfl inferInstance rfl ?_))
    exact Pw.ret_ (x := ()) (.tmp rfl .nil) rfl trivial (fun w h => trivial)
theorem sz_dI {p q : Int} {a : Nat} (h0 : 0 ≤ p) (hp : p < pw a) (h1 : 0 < q) (hq : q < pw a) : Sz a (Rat.divInt p q) := by
  have h := num_le_divInt h0 h1
  exact ⟨Rat.divInt_nonneg h0 (by omega), by omega, by omega⟩
theorem cmpQ_self (x : Rat) : cmpQ x x = 0 := by
  unfold cmpQ; rw [if_neg (Rat.lt_irrefl), if_pos rfl]
/-- What a formed snapshot's voters are without the last one. -/
theorem formB_init {vs : List Vtr} {v : Vtr} {zv z zc : Option Addr × Nat} {cs : List Int} (h : formB ⟨vs ++ [v], z, cs, zc⟩ = true) : formB ⟨vs, zv, cs, zc⟩ = true := by
  obtain ⟨h1, h2, h3, h4⟩ := formB_spec h
  dsimp only at h1 h2 h3 h4
  rw [List.length_append, List.length_singleton] at h1 h4
  refine formB_yes (by show vs.length ≤ 32; omega) h2 h3 (fun j hj => ?_)
  dsimp only at hj ⊢
  have h5 := h4 j (by omega)
  unfold vOk at h5 ⊢
  rw [List.getElem?_append_left hj, List.take_append_of_le_length (by omega)] at h5
  exact h5
end Go.Proofs.Wk
