/- Walks and their mathematics, merged. No conditions beyond those written. -/
import Derived.Test.YtphmegjmmjmbeaaWmPhragmenFair4
/- Elections: Elect of no voters; Elect of any snapshot. -/
namespace Go.Proofs.Wk
open Go.RowKit
set_option maxRecDepth 100000
set_option maxHeartbeats 8000000
attribute [local irreducible] Pw OpG
set_option linter.unusedVariables false
set_option linter.unusedSimpArgs false
abbrev r0L (zv : Option Addr × Nat) (cs : List Int) (zc : Option Addr × Nat) (gr ga : Nat) (zd : Option Addr × Nat) : List Blk :=
  [⟨gr, row [.slice zv.1 0 zv.2, sl cs zc, .map (some ga), sl (natL 1) zd, .slice none 0 0, .slice none 0 0, .slice none 0 0] 75⟩, ⟨ga, mapO []⟩]
theorem newRunner0_ct (zv : Option Addr × Nat) (cs : List Int) (zc : Option Addr × Nat) :
    CtB Try.prog 26 #[snV ⟨[], zv, cs, zc⟩] [] (snF ⟨[], zv, cs, zc⟩) (fun y : Nat × Nat × (Option Addr × Nat) => .pointer (some ⟨y.1, 0, none⟩)) Tt
      (fun y => r0L zv cs zc y.1 y.2.1 y.2.2) (fun y W => S1 (natL 1) y.2.2 W) := by
  obtain ⟨Av, cv⟩ := zv
  obtain ⟨Ac, cc⟩ := zc
  refine CtB.start Try.func26 rfl rfl (slots_of rfl slots1) (fun D0 w0 => Pw.facts sn2 ?_)
  repeat (first | (with_reducible first | refine Pw.seq ?_ | refine Pw.region ?_ | refine Pw.nil ?_ | refine Pw.then_ ?_ | refine Pw.skip ?_ | refine Pw.block ?_ | refine Pw.exit ?_ | refine Pw.inX ?_ | refine Pw.inN ?_ | refine Pw.inR ?_ | refine Pw.thenX ?_ | refine Pw.thenR ?_ | refine Pw.ret ?_) | refine Pw.list (Pw.pure rfl rfl rfl ?_) | refine Pw.inY rfl ?_ | refine Pw.list (Pw.off rfl rfl ?_) | refine Pw.condT rfl ?_ | refine Pw.condF rfl ?_)
  refine Pw.list (Pw.box rfl rfl rfl rfl (fun g1 => freeHead ?_))
  repeat (first | (with_reducible first | refine Pw.seq ?_ | refine Pw.region ?_ | refine Pw.nil ?_ | refine Pw.then_ ?_ | refine Pw.skip ?_ | refine Pw.block ?_ | refine Pw.exit ?_ | refine Pw.inX ?_ | refine Pw.inN ?_ | refine Pw.inR ?_ | refine Pw.thenX ?_ | refine Pw.thenR ?_ | refine Pw.ret ?_) | refine Pw.list (Pw.pure rfl rfl rfl ?_) | refine Pw.inY rfl ?_ | refine Pw.list (Pw.off rfl rfl ?_) | refine Pw.condT rfl ?_ | refine Pw.condF rfl ?_ | refine Pw.list (Pw.box rfl rfl rfl rfl (fun _ => ?_)) | refine Pw.list (Pw.alloc rfl rfl rfl rfl rfl (fun _ => ?_)) | refine Pw.list (Pw.build rfl rfl rfl rfl ?_) | refine Pw.list (Pw.ld rfl inferInstance rfl rfl rfl ?_) | refine Pw.list (Pw.sto rfl rfl inferInstance rfl rfl rfl rfl rfl inferInstance rfl ?_))
  refine Pw.joinQ (σ := Nat × Nat × (Option Addr × Nat)) (fun _ => True) (fun t => ⟨[(1, .pointer (some ⟨g1, 0, none⟩)), (3, .pointer (some ⟨t.1, 0, none⟩))], r0L (Av, cv) cs (Ac, cc) t.1 t.2.1 t.2.2, [S1 (natL 1) t.2.2, fun W => W.heap[g1]? = some (row [.slice Av 0 cv, sl cs (Ac, cc)] 25)]⟩) ?_ ?_
  · skip
    refine Pw.drawnG mixed rfl rfl ?_
    refine Pw.takeF 0 (nb 6 1) rfl rfl inferInstance rfl rfl rfl (by kernel_rfl) np sf ?_
    refine Pw.two 1 2 (nb 6 3) (nb 6 5) rfl rfl (by kernel_rfl) ?_ ?_
    · skip
      refine Pw.makeMap rfl rfl (fun ga => ?_)
      refine Pw.held sf ?_
      refine Pw.one 2 (nb 6 7) rfl (by kernel_rfl) ?_
      refine Pw.call (Of_ct 1) rfl rfl rfl (by kernel_rfl) rfl rfl (fun w h => trivial) ?_
      intro zd _
      rw [ofN_natL (by omega) (by omega)]
      refine Pw.held sf ?_
      refine Pw.takeBuild 3 (nb 6 15) rfl rfl rfl rfl rfl (by kernel_rfl) np sf ?_
      refine Pw.one 4 (nb 6 31) rfl (by kernel_rfl) ?_
      refine Pw.box rfl rfl rfl rfl (fun gr => ?_)
      refine Pw.held sf ?_
      refine Pw.takeP 5 (nb 6 63) rfl rfl rfl rfl (by kernel_rfl) np sf ?_
      refine Pw.done (by kernel_rfl) ?_
      exact Pw.then_ (Pw.arrive (gr, ga, zd) trivial ⟨rfl, rfl, trivial⟩ rfl (fun w h => allCons (hv w h) (allCons (Blks.h (L := []) (g := g1) w (fun b hb => by cases hb) h) allNil)))
    · skip
      refine Pw.call (Of_ct 1) rfl rfl rfl (by kernel_rfl) rfl rfl (fun w h => trivial) ?_
      intro zd _
      rw [ofN_natL (by omega) (by omega)]
      refine Pw.held sf ?_
      refine Pw.one 1 (nb 6 7) rfl (by kernel_rfl) ?_
      refine Pw.makeMap rfl rfl (fun ga => ?_)
      refine Pw.held sf ?_
      refine Pw.takeBuild 3 (nb 6 15) rfl rfl rfl rfl rfl (by kernel_rfl) np sf ?_
      refine Pw.one 4 (nb 6 31) rfl (by kernel_rfl) ?_
      refine Pw.box rfl rfl rfl rfl (fun gr => ?_)
      refine Pw.held sf ?_
      refine Pw.takeP 5 (nb 6 63) rfl rfl rfl rfl (by kernel_rfl) np sf ?_
      refine Pw.done (by kernel_rfl) ?_
      exact Pw.then_ (Pw.arrive (gr, ga, zd) trivial ⟨rfl, rfl, trivial⟩ rfl (fun w h => allCons (hv w h) (allCons (Blks.h (L := []) (g := g1) w (fun b hb => by cases hb) h) allNil)))
  rintro ⟨gr, ga, zd⟩ _
  dsimp only
  repeat (first | (with_reducible first | refine Pw.seq ?_ | refine Pw.region ?_ | refine Pw.nil ?_ | refine Pw.then_ ?_ | refine Pw.skip ?_ | refine Pw.block ?_ | refine Pw.exit ?_ | refine Pw.inX ?_ | refine Pw.inN ?_ | refine Pw.inR ?_ | refine Pw.thenX ?_ | refine Pw.thenR ?_ | refine Pw.ret ?_) | refine Pw.list (Pw.pure rfl rfl rfl ?_) | refine Pw.inY rfl ?_ | refine Pw.list (Pw.off rfl rfl ?_) | refine Pw.condT rfl ?_ | refine Pw.condF rfl ?_ | refine Pw.list (Pw.box rfl rfl rfl rfl (fun _ => ?_)) | refine Pw.list (Pw.alloc rfl rfl rfl rfl rfl (fun _ => ?_)) | refine Pw.list (Pw.build rfl rfl rfl rfl ?_) | refine Pw.list (Pw.ld rfl inferInstance rfl rfl rfl ?_) | refine Pw.list (Pw.sto rfl rfl inferInstance rfl rfl rfl rfl rfl inferInstance rfl ?_))
  refine Pw.rounds 2 (Pw.round ?_)
  repeat (first | (with_reducible first | refine Pw.seq ?_ | refine Pw.region ?_ | refine Pw.nil ?_ | refine Pw.then_ ?_ | refine Pw.skip ?_ | refine Pw.block ?_ | refine Pw.exit ?_ | refine Pw.inX ?_ | refine Pw.inN ?_ | refine Pw.inR ?_ | refine Pw.thenX ?_ | refine Pw.thenR ?_ | refine Pw.ret ?_) | refine Pw.list (Pw.pure rfl rfl rfl ?_) | refine Pw.inY rfl ?_ | refine Pw.list (Pw.off rfl rfl ?_) | refine Pw.condT rfl ?_ | refine Pw.condF rfl ?_ | refine Pw.list (Pw.box rfl rfl rfl rfl (fun _ => ?_)) | refine Pw.list (Pw.alloc rfl rfl rfl rfl rfl (fun _ => ?_)) | refine Pw.list (Pw.build rfl rfl rfl rfl ?_) | refine Pw.list (Pw.ld rfl inferInstance rfl rfl rfl ?_) | refine Pw.list (Pw.sto rfl rfl inferInstance rfl rfl rfl rfl rfl inferInstance rfl ?_))
  exact Pw.retB (x := (gr, ga, zd)) (List.Sublist.refl _) (.tmp rfl .nil) rfl trivial (fun w h => (hv w h))
theorem round0_ct (zv : Option Addr × Nat) (cs : List Int) (zc : Option Addr × Nat) (gr ga : Nat) (zd : Option Addr × Nat) (hcn : cs.length ≤ 32) :
    CtB Try.prog 27 #[.pointer (some ⟨gr, 0, none⟩)] (r0L zv cs zc gr ga zd) (I1 cs zc) (fun _ : Unit => .bool false) Tt (fun _ => r0L zv cs zc gr ga zd) (fun _ _ => True) := by
  obtain ⟨Ac, cc⟩ := zc
  refine CtB.start Try.func27 rfl rfl (slots_of rfl slots1) (fun D0 w0 => ?_)
  repeat (first | (with_reducible first | refine Pw.seq ?_ | refine Pw.region ?_ | refine Pw.nil ?_ | refine Pw.then_ ?_ | refine Pw.skip ?_ | refine Pw.block ?_ | refine Pw.exit ?_ | refine Pw.inX ?_ | refine Pw.inN ?_ | refine Pw.inR ?_ | refine Pw.thenX ?_ | refine Pw.thenR ?_ | refine Pw.ret ?_) | refine Pw.list (Pw.pure rfl rfl rfl ?_) | refine Pw.inY rfl ?_ | refine Pw.list (Pw.off rfl rfl ?_) | refine Pw.condT rfl ?_ | refine Pw.condF rfl ?_ | refine Pw.list (Pw.box rfl rfl rfl rfl (fun _ => ?_)) | refine Pw.list (Pw.alloc rfl rfl rfl rfl rfl (fun _ => ?_)) | refine Pw.list (Pw.build rfl rfl rfl rfl ?_) | refine Pw.list (Pw.ld rfl inferInstance rfl rfl rfl ?_) | refine Pw.list (Pw.sto rfl rfl inferInstance rfl rfl rfl rfl rfl inferInstance rfl ?_))
  refine Pw.loopJ (σ := Nat) (fun j => j ≤ cs.length) (fun j => ⟨[(0, .pointer (some ⟨gr, 0, none⟩)), (3, .int .i64 (-1)), (21, .slice Ac cs.length cc), (22, .int .i64 cs.length), (23, .int .i64 j)], r0L zv cs (Ac, cc) gr ga zd, [I1 cs (Ac, cc)]⟩) (fun j => cs.length - j) 0 (Nat.zero_le _) (Pw.enter ⟨rfl, rfl, rfl, rfl, rfl, trivial⟩ (fun w h => h)) ?_
  rintro j hj
  dsimp only at hj ⊢
  repeat (first | (with_reducible first | refine Pw.seq ?_ | refine Pw.region ?_ | refine Pw.nil ?_ | refine Pw.then_ ?_ | refine Pw.skip ?_ | refine Pw.block ?_ | refine Pw.exit ?_ | refine Pw.inX ?_ | refine Pw.inN ?_ | refine Pw.inR ?_ | refine Pw.thenX ?_ | refine Pw.thenR ?_ | refine Pw.ret ?_) | refine Pw.list (Pw.pure rfl rfl rfl ?_) | refine Pw.inY rfl ?_ | refine Pw.list (Pw.off rfl rfl ?_) | refine Pw.condT rfl ?_ | refine Pw.condF rfl ?_)
  refine Pw.condD rfl (fun cj => ?_) (fun cj => ?_)
  · obtain ⟨c, hc, hcm⟩ := get_at (show j < cs.length by omega)
    repeat (first | (with_reducible first | refine Pw.seq ?_ | refine Pw.region ?_ | refine Pw.nil ?_ | refine Pw.then_ ?_ | refine Pw.skip ?_ | refine Pw.block ?_ | refine Pw.exit ?_ | refine Pw.inX ?_ | refine Pw.inN ?_ | refine Pw.inR ?_ | refine Pw.thenX ?_ | refine Pw.thenR ?_ | refine Pw.ret ?_) | refine Pw.list (Pw.pure rfl rfl rfl ?_) | refine Pw.inY rfl ?_ | refine Pw.list (Pw.off rfl rfl ?_) | refine Pw.condT rfl ?_ | refine Pw.condF rfl ?_)
    refine Pw.list (Pw.index rfl rfl rfl rfl (Int.natCast_nonneg j) cj (fun w h => (hv w h : I1 cs (Ac, cc) w).has (Int.natCast_nonneg j) cj) rfl rfl ?_)
    rintro ad rfl
    refine Pw.list (Pw.load1 rfl rfl (fun w hs => (hv w hs.all : I1 cs (some ad, cc) w).cell (Int.natCast_nonneg j) cj) rfl rfl ?_)
    rw [get_rd hc]
    refine Pw.list (Pw.alloc rfl rfl rfl rfl rfl (fun g7 => ?_))
    repeat (first | (with_reducible first | refine Pw.seq ?_ | refine Pw.region ?_ | refine Pw.nil ?_ | refine Pw.then_ ?_ | refine Pw.skip ?_ | refine Pw.block ?_ | refine Pw.exit ?_ | refine Pw.inX ?_ | refine Pw.inN ?_ | refine Pw.inR ?_ | refine Pw.thenX ?_ | refine Pw.thenR ?_ | refine Pw.ret ?_) | refine Pw.list (Pw.pure rfl rfl rfl ?_) | refine Pw.inY rfl ?_ | refine Pw.list (Pw.off rfl rfl ?_) | refine Pw.condT rfl ?_ | refine Pw.condF rfl ?_ | refine Pw.list (Pw.box rfl rfl rfl rfl (fun _ => ?_)) | refine Pw.list (Pw.alloc rfl rfl rfl rfl rfl (fun _ => ?_)) | refine Pw.list (Pw.build rfl rfl rfl rfl ?_) | refine Pw.list (Pw.ld rfl inferInstance rfl rfl rfl ?_) | refine Pw.list (Pw.sto rfl rfl inferInstance rfl rfl rfl rfl rfl inferInstance rfl ?_))
    refine freeHead ?_
    refine Pw.drawnH (g := gr) inferInstance mixed rfl rfl ?_
    refine Pw.takeP 0 (nb 16 1) rfl rfl rfl rfl (by kernel_rfl) np so ?_
    refine Pw.takeP 1 (nb 16 3) rfl rfl rfl rfl (by kernel_rfl) np so ?_
    refine Pw.takeP 2 (nb 16 7) rfl rfl rfl rfl (by kernel_rfl) np so ?_
    refine Pw.takeF 3 (nb 16 15) rfl rfl inferInstance rfl rfl rfl (by kernel_rfl) np so ?_
    refine Pw.takeF 4 (nb 16 31) rfl rfl inferInstance rfl rfl rfl (by kernel_rfl) np so ?_
    refine Pw.one 5 (nb 16 63) rfl (by kernel_rfl) ?_
    refine Pw.lookupF (m := []) rfl rfl rfl rfl rfl rfl (fun w hs => hs.own ⟨ga, mapO []⟩ (.tail _ (.head _))) rfl rfl ?_
    refine Pw.re (d := 32) (v' := .slice none 0 0) rfl rfl ?_
    refine Pw.held so ?_
    refine Pw.takeP 6 (nb 16 127) rfl rfl rfl rfl (by kernel_rfl) np so ?_
    refine Pw.takeP 7 (nb 16 255) rfl rfl rfl rfl (by kernel_rfl) np so ?_
    refine Pw.takeP 8 (nb 16 511) rfl rfl rfl rfl (by kernel_rfl) np so ?_
    refine Pw.re (d := 35) (v' := .bool true) rfl rfl ?_
    refine Pw.takeO 9 (nb 16 1023) rfl rfl rfl (by kernel_rfl) np so ?_
    refine Pw.takeO 10 (nb 16 2047) rfl rfl rfl (by kernel_rfl) np so ?_
    refine Pw.takeO 11 (nb 16 4095) rfl rfl rfl (by kernel_rfl) np so ?_
    refine Pw.takeO 12 (nb 16 8191) rfl rfl rfl (by kernel_rfl) np so ?_
    refine Pw.takeO 13 (nb 16 16383) rfl rfl rfl (by kernel_rfl) np so ?_
    refine Pw.takeO 14 (nb 16 32767) rfl rfl rfl (by kernel_rfl) np so ?_
    refine Pw.takeP 15 (nb 16 65535) rfl rfl rfl rfl (by kernel_rfl) np so ?_
    refine Pw.done (by kernel_rfl) ?_
    skip
    repeat (first | (with_reducible first | refine Pw.seq ?_ | refine Pw.region ?_ | refine Pw.nil ?_ | refine Pw.then_ ?_ | refine Pw.skip ?_ | refine Pw.block ?_ | refine Pw.exit ?_ | refine Pw.inX ?_ | refine Pw.inN ?_ | refine Pw.inR ?_ | refine Pw.thenX ?_ | refine Pw.thenR ?_ | refine Pw.ret ?_) | refine Pw.list (Pw.pure rfl rfl rfl ?_) | refine Pw.inY rfl ?_ | refine Pw.list (Pw.off rfl rfl ?_) | refine Pw.condT rfl ?_ | refine Pw.condF rfl ?_ | refine Pw.list (Pw.box rfl rfl rfl rfl (fun _ => ?_)) | refine Pw.list (Pw.alloc rfl rfl rfl rfl rfl (fun _ => ?_)) | refine Pw.list (Pw.build rfl rfl rfl rfl ?_) | refine Pw.list (Pw.ld rfl inferInstance rfl rfl rfl ?_) | refine Pw.list (Pw.sto rfl rfl inferInstance rfl rfl rfl rfl rfl inferInstance rfl ?_))
    refine Pw.re (d := 23) (v' := .int .i64 ((j + 1 : Nat) : Int)) rfl (congrArg (Value.int .i64) (i64s (n := 100000) (by omega) (by omega))) ?_
    exact Pw.again (j + 1) (by show j + 1 ≤ cs.length; omega) (by show cs.length - (j + 1) < cs.length - j; omega) ⟨rfl, rfl, rfl, rfl, rfl, trivial⟩ rfl (fun w h => allTail h)
  · repeat (first | (with_reducible first | refine Pw.seq ?_ | refine Pw.region ?_ | refine Pw.nil ?_ | refine Pw.then_ ?_ | refine Pw.skip ?_ | refine Pw.block ?_ | refine Pw.exit ?_ | refine Pw.inX ?_ | refine Pw.inN ?_ | refine Pw.inR ?_ | refine Pw.thenX ?_ | refine Pw.thenR ?_ | refine Pw.ret ?_) | refine Pw.list (Pw.pure rfl rfl rfl ?_) | refine Pw.inY rfl ?_ | refine Pw.list (Pw.off rfl rfl ?_) | refine Pw.condT rfl ?_ | refine Pw.condF rfl ?_ | refine Pw.list (Pw.box rfl rfl rfl rfl (fun _ => ?_)) | refine Pw.list (Pw.alloc rfl rfl rfl rfl rfl (fun _ => ?_)) | refine Pw.list (Pw.build rfl rfl rfl rfl ?_) | refine Pw.list (Pw.ld rfl inferInstance rfl rfl rfl ?_) | refine Pw.list (Pw.sto rfl rfl inferInstance rfl rfl rfl rfl rfl inferInstance rfl ?_))
    exact Pw.retB (x := ()) (List.Sublist.refl _) (.tmp rfl .nil) rfl trivial (fun w h => trivial)
theorem shares0_ct (zv : Option Addr × Nat) (cs : List Int) (zc : Option Addr × Nat) (gr ga : Nat) (zd : Option Addr × Nat) :
    Ct Try.prog 28 #[.pointer (some ⟨gr, 0, none⟩)] (fun W => W.heap[gr]? = some (row [.slice zv.1 0 zv.2, sl cs zc, .map (some ga), sl (natL 1) zd, .slice none 0 0, .slice none 0 0, .slice none 0 0] 75)) (fun _ : Unit => .slice none 0 0) Tt (fun _ _ => True) := by
  refine Ct.start Try.func28 rfl rfl (slots_of rfl slots1) (fun D0 w0 => ?_)
  repeat (first | (with_reducible first | refine Pw.seq ?_ | refine Pw.region ?_ | refine Pw.nil ?_ | refine Pw.then_ ?_ | refine Pw.skip ?_ | refine Pw.block ?_ | refine Pw.exit ?_ | refine Pw.inX ?_ | refine Pw.inN ?_ | refine Pw.inR ?_ | refine Pw.thenX ?_ | refine Pw.thenR ?_ | refine Pw.ret ?_) | refine Pw.list (Pw.pure rfl rfl rfl ?_) | refine Pw.inY rfl ?_ | refine Pw.list (Pw.off rfl rfl ?_) | refine Pw.condT rfl ?_ | refine Pw.condF rfl ?_ | refine Pw.list (Pw.box rfl rfl rfl rfl (fun _ => ?_)) | refine Pw.list (Pw.alloc rfl rfl rfl rfl rfl (fun _ => ?_)) | refine Pw.list (Pw.build rfl rfl rfl rfl ?_) | refine Pw.list (Pw.ld rfl inferInstance rfl rfl rfl ?_) | refine Pw.list (Pw.sto rfl rfl inferInstance rfl rfl rfl rfl rfl inferInstance rfl ?_))
  refine Pw.rounds 2 (Pw.round ?_)
  repeat (first | (with_reducible first | refine Pw.seq ?_ | refine Pw.region ?_ | refine Pw.nil ?_ | refine Pw.then_ ?_ | refine Pw.skip ?_ | refine Pw.block ?_ | refine Pw.exit ?_ | refine Pw.inX ?_ | refine Pw.inN ?_ | refine Pw.inR ?_ | refine Pw.thenX ?_ | refine Pw.thenR ?_ | refine Pw.ret ?_) | refine Pw.list (Pw.pure rfl rfl rfl ?_) | refine Pw.inY rfl ?_ | refine Pw.list (Pw.off rfl rfl ?_) | refine Pw.condT rfl ?_ | refine Pw.condF rfl ?_ | refine Pw.list (Pw.box rfl rfl rfl rfl (fun _ => ?_)) | refine Pw.list (Pw.alloc rfl rfl rfl rfl rfl (fun _ => ?_)) | refine Pw.list (Pw.build rfl rfl rfl rfl ?_) | refine Pw.list (Pw.ld rfl inferInstance rfl rfl rfl ?_) | refine Pw.list (Pw.sto rfl rfl inferInstance rfl rfl rfl rfl rfl inferInstance rfl ?_))
  exact Pw.ret_ (x := ()) (.tmp rfl .nil) rfl trivial (fun w h => trivial)
theorem rnd_nil (cs : List Int) (S : Est) : rnd [] cs S = none := by
  have key : ∀ l : List Int, l.foldl (seek [] S) none = none := by
    intro l
    induction l with
    | nil => rfl
    | cons c l ih =>
      rw [List.foldl_cons]
      exact ih
  unfold rnd best
  rw [key]; rfl
theorem elect_nil (cs : List Int) (k : Nat) : electE [] cs k = begE [] := by
  unfold electE
  cases k with
  | zero => rfl
  | succ k => unfold runE; rw [rnd_nil]
/-- What Elect answers. -/
def eaOk (s : Sn) (k : Int) (y : Ea) : Prop := y.os.map (fun o => (o.at_, o.a, o.b)) = (electE s.vs s.cs k.toNat).se.map seatQ ∧ y.sh.map shK = shTo s.vs s.cs (electE s.vs s.cs k.toNat) s.vs.length
theorem Elect0_ct (s : Sn) (k : Int) (hW : snW s) (hF : formB s = true) (hn : s.vs = []) (h0 : 0 ≤ k) (h8 : k ≤ 8) :
    Ct Try.prog 10 #[snV s, .int .i64 k] (snF s) (fun y : Ea => .tuple #[.slice y.zo.1 y.os.length y.zo.2, ssV y.sh y.zs, .int .i64 0])
      (eaOk s k) (fun y W => OS y.os y.zo W ∧ SS y.sh y.zs W) := by
  obtain ⟨l1, l2, l3, l4⟩ := formB_all hF
  obtain ⟨vs, zv, cs, zc⟩ := s
  dsimp only at hn l1 l2 l3
  subst hn
  refine Ct.start Try.func10 rfl rfl (slots_of rfl slots2) (fun D w0 => Pw.facts sn2 ?_)
  repeat (first | (with_reducible first | refine Pw.seq ?_ | refine Pw.region ?_ | refine Pw.nil ?_ | refine Pw.then_ ?_ | refine Pw.skip ?_ | refine Pw.block ?_ | refine Pw.exit ?_ | refine Pw.inX ?_ | refine Pw.inN ?_ | refine Pw.inR ?_ | refine Pw.thenX ?_ | refine Pw.thenR ?_ | refine Pw.ret ?_) | refine Pw.list (Pw.pure rfl rfl rfl ?_) | refine Pw.inY rfl ?_ | refine Pw.list (Pw.off rfl rfl ?_) | refine Pw.condT rfl ?_ | refine Pw.condF rfl ?_)
  refine Pw.list (Pw.box rfl rfl rfl rfl (fun g2 => freeHead ?_))
  repeat (first | (with_reducible first | refine Pw.seq ?_ | refine Pw.region ?_ | refine Pw.nil ?_ | refine Pw.then_ ?_ | refine Pw.skip ?_ | refine Pw.block ?_ | refine Pw.exit ?_ | refine Pw.inX ?_ | refine Pw.inN ?_ | refine Pw.inR ?_ | refine Pw.thenX ?_ | refine Pw.thenR ?_ | refine Pw.ret ?_) | refine Pw.list (Pw.pure rfl rfl rfl ?_) | refine Pw.inY rfl ?_ | refine Pw.list (Pw.off rfl rfl ?_) | refine Pw.condT rfl ?_ | refine Pw.condF rfl ?_ | refine Pw.list (Pw.box rfl rfl rfl rfl (fun _ => ?_)) | refine Pw.list (Pw.alloc rfl rfl rfl rfl rfl (fun _ => ?_)) | refine Pw.list (Pw.build rfl rfl rfl rfl ?_) | refine Pw.list (Pw.ld rfl inferInstance rfl rfl rfl ?_) | refine Pw.list (Pw.sto rfl rfl inferInstance rfl rfl rfl rfl rfl inferInstance rfl ?_))
  refine Pw.list (Pw.call (gFormed_ct ⟨[], zv, cs, zc⟩ hW) rfl rfl rfl (by kernel_rfl) rfl rfl (fun w h => ⟨(hv w h), (hv w h)⟩) ?_)
  intro _ _
  rw [hF]
  repeat (first | (with_reducible first | refine Pw.seq ?_ | refine Pw.region ?_ | refine Pw.nil ?_ | refine Pw.then_ ?_ | refine Pw.skip ?_ | refine Pw.block ?_ | refine Pw.exit ?_ | refine Pw.inX ?_ | refine Pw.inN ?_ | refine Pw.inR ?_ | refine Pw.thenX ?_ | refine Pw.thenR ?_ | refine Pw.ret ?_) | refine Pw.list (Pw.pure rfl rfl rfl ?_) | refine Pw.inY rfl ?_ | refine Pw.list (Pw.off rfl rfl ?_) | refine Pw.condT rfl ?_ | refine Pw.condF rfl ?_ | refine Pw.list (Pw.box rfl rfl rfl rfl (fun _ => ?_)) | refine Pw.list (Pw.alloc rfl rfl rfl rfl rfl (fun _ => ?_)) | refine Pw.list (Pw.build rfl rfl rfl rfl ?_) | refine Pw.list (Pw.ld rfl inferInstance rfl rfl rfl ?_) | refine Pw.list (Pw.sto rfl rfl inferInstance rfl rfl rfl rfl rfl inferInstance rfl ?_))
  refine Pw.re (d := 15) (v' := .bool false) rfl (congrArg Value.bool (decide_eq_false (by omega))) ?_
  repeat (first | (with_reducible first | refine Pw.seq ?_ | refine Pw.region ?_ | refine Pw.nil ?_ | refine Pw.then_ ?_ | refine Pw.skip ?_ | refine Pw.block ?_ | refine Pw.exit ?_ | refine Pw.inX ?_ | refine Pw.inN ?_ | refine Pw.inR ?_ | refine Pw.thenX ?_ | refine Pw.thenR ?_ | refine Pw.ret ?_) | refine Pw.list (Pw.pure rfl rfl rfl ?_) | refine Pw.inY rfl ?_ | refine Pw.list (Pw.off rfl rfl ?_) | refine Pw.condT rfl ?_ | refine Pw.condF rfl ?_ | refine Pw.list (Pw.box rfl rfl rfl rfl (fun _ => ?_)) | refine Pw.list (Pw.alloc rfl rfl rfl rfl rfl (fun _ => ?_)) | refine Pw.list (Pw.build rfl rfl rfl rfl ?_) | refine Pw.list (Pw.ld rfl inferInstance rfl rfl rfl ?_) | refine Pw.list (Pw.sto rfl rfl inferInstance rfl rfl rfl rfl rfl inferInstance rfl ?_))
  refine Pw.re (d := 18) (v' := .bool false) rfl (congrArg Value.bool (decide_eq_false (by omega))) ?_
  repeat (first | (with_reducible first | refine Pw.seq ?_ | refine Pw.region ?_ | refine Pw.nil ?_ | refine Pw.then_ ?_ | refine Pw.skip ?_ | refine Pw.block ?_ | refine Pw.exit ?_ | refine Pw.inX ?_ | refine Pw.inN ?_ | refine Pw.inR ?_ | refine Pw.thenX ?_ | refine Pw.thenR ?_ | refine Pw.ret ?_) | refine Pw.list (Pw.pure rfl rfl rfl ?_) | refine Pw.inY rfl ?_ | refine Pw.list (Pw.off rfl rfl ?_) | refine Pw.condT rfl ?_ | refine Pw.condF rfl ?_ | refine Pw.list (Pw.box rfl rfl rfl rfl (fun _ => ?_)) | refine Pw.list (Pw.alloc rfl rfl rfl rfl rfl (fun _ => ?_)) | refine Pw.list (Pw.build rfl rfl rfl rfl ?_) | refine Pw.list (Pw.ld rfl inferInstance rfl rfl rfl ?_) | refine Pw.list (Pw.sto rfl rfl inferInstance rfl rfl rfl rfl rfl inferInstance rfl ?_))
  refine Pw.list (Pw.callB (L0 := []) (newRunner0_ct zv cs zc) rfl rfl rfl rfl (by kernel_rfl) rfl rfl (fun w h => ⟨(hv w h), (hv w h)⟩) ?_)
  rintro ⟨gr, ga, zd⟩ _
  rw [List.append_nil]
  repeat (first | (with_reducible first | refine Pw.seq ?_ | refine Pw.region ?_ | refine Pw.nil ?_ | refine Pw.then_ ?_ | refine Pw.skip ?_ | refine Pw.block ?_ | refine Pw.exit ?_ | refine Pw.inX ?_ | refine Pw.inN ?_ | refine Pw.inR ?_ | refine Pw.thenX ?_ | refine Pw.thenR ?_ | refine Pw.ret ?_) | refine Pw.list (Pw.pure rfl rfl rfl ?_) | refine Pw.inY rfl ?_ | refine Pw.list (Pw.off rfl rfl ?_) | refine Pw.condT rfl ?_ | refine Pw.condF rfl ?_ | refine Pw.list (Pw.box rfl rfl rfl rfl (fun _ => ?_)) | refine Pw.list (Pw.alloc rfl rfl rfl rfl rfl (fun _ => ?_)) | refine Pw.list (Pw.build rfl rfl rfl rfl ?_) | refine Pw.list (Pw.ld rfl inferInstance rfl rfl rfl ?_) | refine Pw.list (Pw.sto rfl rfl inferInstance rfl rfl rfl rfl rfl inferInstance rfl ?_))
  refine Pw.rounds 2 (Pw.round ?_)
  repeat (first | (with_reducible first | refine Pw.seq ?_ | refine Pw.region ?_ | refine Pw.nil ?_ | refine Pw.then_ ?_ | refine Pw.skip ?_ | refine Pw.block ?_ | refine Pw.exit ?_ | refine Pw.inX ?_ | refine Pw.inN ?_ | refine Pw.inR ?_ | refine Pw.thenX ?_ | refine Pw.thenR ?_ | refine Pw.ret ?_) | refine Pw.list (Pw.pure rfl rfl rfl ?_) | refine Pw.inY rfl ?_ | refine Pw.list (Pw.off rfl rfl ?_) | refine Pw.condT rfl ?_ | refine Pw.condF rfl ?_ | refine Pw.list (Pw.box rfl rfl rfl rfl (fun _ => ?_)) | refine Pw.list (Pw.alloc rfl rfl rfl rfl rfl (fun _ => ?_)) | refine Pw.list (Pw.build rfl rfl rfl rfl ?_) | refine Pw.list (Pw.ld rfl inferInstance rfl rfl rfl ?_) | refine Pw.list (Pw.sto rfl rfl inferInstance rfl rfl rfl rfl rfl inferInstance rfl ?_))
  by_cases hk : (0 : Int) < k
  · refine Pw.re (d := 28) (v' := .bool true) rfl (congrArg Value.bool (decide_eq_true hk)) ?_
    repeat (first | (with_reducible first | refine Pw.seq ?_ | refine Pw.region ?_ | refine Pw.nil ?_ | refine Pw.then_ ?_ | refine Pw.skip ?_ | refine Pw.block ?_ | refine Pw.exit ?_ | refine Pw.inX ?_ | refine Pw.inN ?_ | refine Pw.inR ?_ | refine Pw.thenX ?_ | refine Pw.thenR ?_ | refine Pw.ret ?_) | refine Pw.list (Pw.pure rfl rfl rfl ?_) | refine Pw.inY rfl ?_ | refine Pw.list (Pw.off rfl rfl ?_) | refine Pw.condT rfl ?_ | refine Pw.condF rfl ?_ | refine Pw.list (Pw.box rfl rfl rfl rfl (fun _ => ?_)) | refine Pw.list (Pw.alloc rfl rfl rfl rfl rfl (fun _ => ?_)) | refine Pw.list (Pw.build rfl rfl rfl rfl ?_) | refine Pw.list (Pw.ld rfl inferInstance rfl rfl rfl ?_) | refine Pw.list (Pw.sto rfl rfl inferInstance rfl rfl rfl rfl rfl inferInstance rfl ?_))
    refine Pw.list (Pw.callB (L0 := []) (round0_ct zv cs zc gr ga zd l2) (List.append_nil _).symm rfl rfl rfl (by kernel_rfl) rfl rfl (fun w h => (hv w h)) ?_)
    rintro _ _
    rw [List.append_nil]
    repeat (first | (with_reducible first | refine Pw.seq ?_ | refine Pw.region ?_ | refine Pw.nil ?_ | refine Pw.then_ ?_ | refine Pw.skip ?_ | refine Pw.block ?_ | refine Pw.exit ?_ | refine Pw.inX ?_ | refine Pw.inN ?_ | refine Pw.inR ?_ | refine Pw.thenX ?_ | refine Pw.thenR ?_ | refine Pw.ret ?_) | refine Pw.list (Pw.pure rfl rfl rfl ?_) | refine Pw.inY rfl ?_ | refine Pw.list (Pw.off rfl rfl ?_) | refine Pw.condT rfl ?_ | refine Pw.condF rfl ?_ | refine Pw.list (Pw.box rfl rfl rfl rfl (fun _ => ?_)) | refine Pw.list (Pw.alloc rfl rfl rfl rfl rfl (fun _ => ?_)) | refine Pw.list (Pw.build rfl rfl rfl rfl ?_) | refine Pw.list (Pw.ld rfl inferInstance rfl rfl rfl ?_) | refine Pw.list (Pw.sto rfl rfl inferInstance rfl rfl rfl rfl rfl inferInstance rfl ?_))
    refine freeHead ?_
    refine Pw.drawnG mixed rfl rfl ?_
    refine Pw.takeP 0 (nb 9 1) rfl rfl rfl rfl (by kernel_rfl) np sf ?_
    refine Pw.takeP 1 (nb 9 3) rfl rfl rfl rfl (by kernel_rfl) np sf ?_
    refine Pw.takeP 2 (nb 9 7) rfl rfl rfl rfl (by kernel_rfl) np sf ?_
    refine Pw.takeF 3 (nb 9 15) rfl rfl inferInstance rfl rfl rfl (by kernel_rfl) np sf ?_
    refine Pw.takeP 4 (nb 9 31) rfl rfl rfl rfl (by kernel_rfl) np sf ?_
    refine Pw.one 5 (nb 9 63) rfl (by kernel_rfl) ?_
    -- call Op.call { callee := Callee.value (Operand.func 28), args := #[Operand.tmp 36], argTypes := #[69] }
    refine Pw.call (shares0_ct zv cs zc gr ga zd) rfl rfl rfl (by kernel_rfl) rfl rfl (fun w h => (by first | exact fact0 (h) | exact fact0 (allTail (h)) | exact fact0 (allTail (allTail (h))) | exact fact0 (allTail (allTail (allTail (h)))) | exact fact0 (allTail (allTail (allTail (allTail (h))))) | exact fact0 (allTail (allTail (allTail (allTail (allTail (h)))))) | exact fact0 (allTail (allTail (allTail (allTail (allTail (allTail (h))))))) | exact fact0 (allTail (allTail (allTail (allTail (allTail (allTail (allTail (h)))))))) | exact fact0 (allTail (allTail (allTail (allTail (allTail (allTail (allTail (allTail (h))))))))) | exact fact0 (allTail (allTail (allTail (allTail (allTail (allTail (allTail (allTail (allTail (h)))))))))))) ?_
    intro _ _
    refine Pw.held sf ?_
    refine Pw.takeP 6 (nb 9 127) rfl rfl rfl rfl (by kernel_rfl) np sf ?_
    refine Pw.takeP 7 (nb 9 255) rfl rfl rfl rfl (by kernel_rfl) np sf ?_
    refine Pw.takeP 8 (nb 9 511) rfl rfl rfl rfl (by kernel_rfl) np sf ?_
    refine Pw.done (by kernel_rfl) ?_
    repeat (first | (with_reducible first | refine Pw.seq ?_ | refine Pw.region ?_ | refine Pw.nil ?_ | refine Pw.then_ ?_ | refine Pw.skip ?_ | refine Pw.block ?_ | refine Pw.exit ?_ | refine Pw.inX ?_ | refine Pw.inN ?_ | refine Pw.inR ?_ | refine Pw.thenX ?_ | refine Pw.thenR ?_ | refine Pw.ret ?_) | refine Pw.list (Pw.pure rfl rfl rfl ?_) | refine Pw.inY rfl ?_ | refine Pw.list (Pw.off rfl rfl ?_) | refine Pw.condT rfl ?_ | refine Pw.condF rfl ?_ | refine Pw.list (Pw.box rfl rfl rfl rfl (fun _ => ?_)) | refine Pw.list (Pw.alloc rfl rfl rfl rfl rfl (fun _ => ?_)) | refine Pw.list (Pw.build rfl rfl rfl rfl ?_) | refine Pw.list (Pw.ld rfl inferInstance rfl rfl rfl ?_) | refine Pw.list (Pw.sto rfl rfl inferInstance rfl rfl rfl rfl rfl inferInstance rfl ?_))
    exact Pw.ret_ (x := ⟨[], (none, 0), [], (none, 0)⟩) (.tmp rfl (.tmp rfl (.tmp rfl .nil))) rfl ⟨by rw [elect_nil]; rfl, by rw [elect_nil]; rfl⟩ (fun w h => ⟨Rows.nil _ _ _ _ _, Rows.nil _ _ _ _ _⟩)
  · refine Pw.re (d := 28) (v' := .bool false) rfl (congrArg Value.bool (decide_eq_false hk)) ?_
    repeat (first | (with_reducible first | refine Pw.seq ?_ | refine Pw.region ?_ | refine Pw.nil ?_ | refine Pw.then_ ?_ | refine Pw.skip ?_ | refine Pw.block ?_ | refine Pw.exit ?_ | refine Pw.inX ?_ | refine Pw.inN ?_ | refine Pw.inR ?_ | refine Pw.thenX ?_ | refine Pw.thenR ?_ | refine Pw.ret ?_) | refine Pw.list (Pw.pure rfl rfl rfl ?_) | refine Pw.inY rfl ?_ | refine Pw.list (Pw.off rfl rfl ?_) | refine Pw.condT rfl ?_ | refine Pw.condF rfl ?_ | refine Pw.list (Pw.box rfl rfl rfl rfl (fun _ => ?_)) | refine Pw.list (Pw.alloc rfl rfl rfl rfl rfl (fun _ => ?_)) | refine Pw.list (Pw.build rfl rfl rfl rfl ?_) | refine Pw.list (Pw.ld rfl inferInstance rfl rfl rfl ?_) | refine Pw.list (Pw.sto rfl rfl inferInstance rfl rfl rfl rfl rfl inferInstance rfl ?_))
    refine freeHead ?_
    refine Pw.drawnG mixed rfl rfl ?_
    refine Pw.takeP 0 (nb 9 1) rfl rfl rfl rfl (by kernel_rfl) np sf ?_
    refine Pw.takeP 1 (nb 9 3) rfl rfl rfl rfl (by kernel_rfl) np sf ?_
    refine Pw.takeP 2 (nb 9 7) rfl rfl rfl rfl (by kernel_rfl) np sf ?_
    refine Pw.takeF 3 (nb 9 15) rfl rfl inferInstance rfl rfl rfl (by kernel_rfl) np sf ?_
    refine Pw.takeP 4 (nb 9 31) rfl rfl rfl rfl (by kernel_rfl) np sf ?_
    refine Pw.one 5 (nb 9 63) rfl (by kernel_rfl) ?_
    -- call Op.call { callee := Callee.value (Operand.func 28), args := #[Operand.tmp 36], argTypes := #[69] }
    refine Pw.call (shares0_ct zv cs zc gr ga zd) rfl rfl rfl (by kernel_rfl) rfl rfl (fun w h => (by first | exact fact0 (h) | exact fact0 (allTail (h)) | exact fact0 (allTail (allTail (h))) | exact fact0 (allTail (allTail (allTail (h)))) | exact fact0 (allTail (allTail (allTail (allTail (h))))) | exact fact0 (allTail (allTail (allTail (allTail (allTail (h)))))) | exact fact0 (allTail (allTail (allTail (allTail (allTail (allTail (h))))))) | exact fact0 (allTail (allTail (allTail (allTail (allTail (allTail (allTail (h)))))))) | exact fact0 (allTail (allTail (allTail (allTail (allTail (allTail (allTail (allTail (h))))))))) | exact fact0 (allTail (allTail (allTail (allTail (allTail (allTail (allTail (allTail (allTail (h)))))))))))) ?_
    intro _ _
    refine Pw.held sf ?_
    refine Pw.takeP 6 (nb 9 127) rfl rfl rfl rfl (by kernel_rfl) np sf ?_
    refine Pw.takeP 7 (nb 9 255) rfl rfl rfl rfl (by kernel_rfl) np sf ?_
    refine Pw.takeP 8 (nb 9 511) rfl rfl rfl rfl (by kernel_rfl) np sf ?_
    refine Pw.done (by kernel_rfl) ?_
    repeat (first | (with_reducible first | refine Pw.seq ?_ | refine Pw.region ?_ | refine Pw.nil ?_ | refine Pw.then_ ?_ | refine Pw.skip ?_ | refine Pw.block ?_ | refine Pw.exit ?_ | refine Pw.inX ?_ | refine Pw.inN ?_ | refine Pw.inR ?_ | refine Pw.thenX ?_ | refine Pw.thenR ?_ | refine Pw.ret ?_) | refine Pw.list (Pw.pure rfl rfl rfl ?_) | refine Pw.inY rfl ?_ | refine Pw.list (Pw.off rfl rfl ?_) | refine Pw.condT rfl ?_ | refine Pw.condF rfl ?_ | refine Pw.list (Pw.box rfl rfl rfl rfl (fun _ => ?_)) | refine Pw.list (Pw.alloc rfl rfl rfl rfl rfl (fun _ => ?_)) | refine Pw.list (Pw.build rfl rfl rfl rfl ?_) | refine Pw.list (Pw.ld rfl inferInstance rfl rfl rfl ?_) | refine Pw.list (Pw.sto rfl rfl inferInstance rfl rfl rfl rfl rfl inferInstance rfl ?_))
    exact Pw.ret_ (x := ⟨[], (none, 0), [], (none, 0)⟩) (.tmp rfl (.tmp rfl (.tmp rfl .nil))) rfl ⟨by rw [elect_nil]; rfl, by rw [elect_nil]; rfl⟩ (fun w h => ⟨Rows.nil _ _ _ _ _, Rows.nil _ _ _ _ _⟩)
/-- Of any formed snapshot. -/
theorem ElectF_ct (s : Sn) (k : Int) (hW : snW s) (hF : formB s = true) (h0 : 0 ≤ k) (h8 : k ≤ 8) :
    Ct Try.prog 10 #[snV s, .int .i64 k] (snF s) (fun y : Ea => .tuple #[.slice y.zo.1 y.os.length y.zo.2, ssV y.sh y.zs, .int .i64 0])
      (eaOk s k) (fun y W => OS y.os y.zo W ∧ SS y.sh y.zs W) := by
  by_cases hn : s.vs = []
  · exact Elect0_ct s k hW hF hn h0 h8
  · exact ElectN_ct s k hW hF hn h0 h8
end Go.Proofs.Wk
/- Elections: a voter more that gives nothing (plain). -/
namespace Go.Proofs.Wk
open Go.RowKit
set_option linter.unusedVariables false
set_option linter.unusedSimpArgs false
theorem sumL_congr {f g : Nat → Int} {l : List Nat} (h : ∀ i ∈ l, f i = g i) : sumL f l = sumL g l := by
  unfold sumL; rw [List.map_congr_left h]
theorem ap_lt {vs : List Vtr} {c : Int} : ∀ i ∈ ap vs c, i < vs.length := fun i hi => (ap_mem.1 hi).1
theorem run_ok {vs : List Vtr} (hV : VOk vs) {cs : List Int} : ∀ (k a : Nat) (S : Est), EOk vs a S → EOk vs (a + 3 * k) (runE vs cs k S)
  | 0, a, S, h => h
  | k + 1, a, S, h => by
    unfold runE
    cases hr : rnd vs cs S with
    | none =>
      have up : ∀ {x : Int}, x < pw a → x < pw (a + 3 * (k + 1)) := fun hx => lt_pw_le hx (by omega)
      exact ⟨h.d0, up h.d1, h.ll, fun x hx => ⟨(h.l0 x hx).1, up (h.l0 x hx).2⟩, h.el, fun i l hl => ⟨fun x hx => by
        obtain ⟨q1, q2, q3, q4⟩ := (h.e0 i l hl).1 x hx
        exact ⟨q1, up q2, q3, up q4⟩, (h.e0 i l hl).2⟩, fun x hx => by
        obtain ⟨q1, q2, q3, q4⟩ := h.s0 x hx
        exact ⟨q1, up q2, q3, up q4⟩, h.k0⟩
    | some S' =>
      have := run_ok hV (cs := cs) k (a + 3) S' (rnd_ok hV h hr)
      rwa [show a + 3 + 3 * k = a + 3 * (k + 1) by omega] at this
theorem elect_ok {vs : List Vtr} (hV : VOk vs) (cs : List Int) (k : Nat) : EOk vs (1 + 3 * k) (electE vs cs k) := run_ok hV k 1 _ (beg_ok vs)
end Go.Proofs.Wk
/- Money: sums. -/
namespace Go.Proofs.Wk
open Go.RowKit
set_option maxRecDepth 100000
set_option maxHeartbeats 1000000
attribute [local irreducible] Pw OpG
set_option linter.unusedVariables false
set_option linter.unusedSimpArgs false
def U64 (n : Int) : Prop := 0 ≤ n ∧ n ≤ 18446744073709551615
def lsum : List Int → Int
  | [] => 0
  | n :: r => n + lsum r
theorem lsum_append (a b : List Int) : lsum (a ++ b) = lsum a + lsum b := by
  induction a with
  | nil => simp [lsum]
  | cons x r ih => simp only [List.cons_append, lsum, ih]; omega
theorem lsum_snoc (a : List Int) (n : Int) : lsum (a ++ [n]) = lsum a + n := by rw [lsum_append]; simp [lsum]
theorem lsum_nonneg {l : List Int} (h : ∀ n ∈ l, U64 n) : 0 ≤ lsum l := by
  induction l with
  | nil => simp [lsum]
  | cons x r ih =>
    have h1 := (h x (List.mem_cons_self ..)).1
    have h2 := ih (fun v hv => h v (List.mem_cons_of_mem _ hv))
    simp only [lsum]; omega
theorem lsum_take_le {l : List Int} (h : ∀ n ∈ l, U64 n) (k : Nat) : lsum (l.take k) ≤ lsum l := by
  have e : l = l.take k ++ l.drop k := (List.take_append_drop k l).symm
  have h2 := lsum_nonneg (l := l.drop k) (fun n hn => h n (List.mem_of_mem_drop hn))
  have h3 : lsum l = lsum (l.take k) + lsum (l.drop k) := by rw [← lsum_append, List.take_append_drop]
  omega
def sumM (l : List Int) : Int × Int := if lsum l ≤ 18446744073709551615 then (lsum l, 0) else (0, 3)
abbrev U1 (l : List Int) (x : Option Addr × Nat) : World → Prop := Ints .u64 l x.1 x.2
def addR (a b : Int) : Int × Int := if a + b ≤ 18446744073709551615 then (a + b, 0) else (0, 3)
theorem rAdd_ct (a b : Int) (ha : U64 a) (hb : U64 b) : Ct Try.prog 46 #[.int .u64 a, .int .u64 b] (fun _ => True) (fun _ : Unit => .tuple #[.int .u64 (addR a b).1, .int .i64 (addR a b).2]) Tt (fun _ _ => True) := by
  unfold U64 at ha hb
  refine Ct.start Try.func46 rfl rfl (slots_of rfl slots2) (fun D w0 => ?_)
  repeat (first | (with_reducible first | refine Pw.seq ?_ | refine Pw.region ?_ | refine Pw.nil ?_ | refine Pw.then_ ?_ | refine Pw.skip ?_ | refine Pw.block ?_ | refine Pw.exit ?_ | refine Pw.inX ?_ | refine Pw.inN ?_ | refine Pw.inR ?_ | refine Pw.thenX ?_ | refine Pw.thenR ?_ | refine Pw.ret ?_) | refine Pw.list (Pw.pure rfl rfl rfl ?_) | refine Pw.inY rfl ?_ | refine Pw.list (Pw.off rfl rfl ?_) | refine Pw.condT rfl ?_ | refine Pw.condF rfl ?_ | refine Pw.list (Pw.box rfl rfl rfl rfl (fun _ => ?_)) | refine Pw.list (Pw.alloc rfl rfl rfl rfl rfl (fun _ => ?_)) | refine Pw.list (Pw.build rfl rfl rfl rfl ?_) | refine Pw.list (Pw.ld rfl inferInstance rfl rfl rfl ?_) | refine Pw.list (Pw.sto rfl rfl inferInstance rfl rfl rfl rfl rfl inferInstance rfl ?_))
  refine Pw.condD rfl (fun c => ?_) (fun c => ?_)
  · rw [wu64] at c
    repeat (first | (with_reducible first | refine Pw.seq ?_ | refine Pw.region ?_ | refine Pw.nil ?_ | refine Pw.then_ ?_ | refine Pw.skip ?_ | refine Pw.block ?_ | refine Pw.exit ?_ | refine Pw.inX ?_ | refine Pw.inN ?_ | refine Pw.inR ?_ | refine Pw.thenX ?_ | refine Pw.thenR ?_ | refine Pw.ret ?_) | refine Pw.list (Pw.pure rfl rfl rfl ?_) | refine Pw.inY rfl ?_ | refine Pw.list (Pw.off rfl rfl ?_) | refine Pw.condT rfl ?_ | refine Pw.condF rfl ?_ | refine Pw.list (Pw.box rfl rfl rfl rfl (fun _ => ?_)) | refine Pw.list (Pw.alloc rfl rfl rfl rfl rfl (fun _ => ?_)) | refine Pw.list (Pw.build rfl rfl rfl rfl ?_) | refine Pw.list (Pw.ld rfl inferInstance rfl rfl rfl ?_) | refine Pw.list (Pw.sto rfl rfl inferInstance rfl rfl rfl rfl rfl inferInstance rfl ?_))
    exact Pw.ret_ (x := ()) (.tmp rfl (.tmp rfl .nil)) (by unfold addR; rw [if_neg (by omega)]; rfl) trivial (fun w h => by trivial)
  · rw [wu64] at c
    repeat (first | (with_reducible first | refine Pw.seq ?_ | refine Pw.region ?_ | refine Pw.nil ?_ | refine Pw.then_ ?_ | refine Pw.skip ?_ | refine Pw.block ?_ | refine Pw.exit ?_ | refine Pw.inX ?_ | refine Pw.inN ?_ | refine Pw.inR ?_ | refine Pw.thenX ?_ | refine Pw.thenR ?_ | refine Pw.ret ?_) | refine Pw.list (Pw.pure rfl rfl rfl ?_) | refine Pw.inY rfl ?_ | refine Pw.list (Pw.off rfl rfl ?_) | refine Pw.condT rfl ?_ | refine Pw.condF rfl ?_ | refine Pw.list (Pw.box rfl rfl rfl rfl (fun _ => ?_)) | refine Pw.list (Pw.alloc rfl rfl rfl rfl rfl (fun _ => ?_)) | refine Pw.list (Pw.build rfl rfl rfl rfl ?_) | refine Pw.list (Pw.ld rfl inferInstance rfl rfl rfl ?_) | refine Pw.list (Pw.sto rfl rfl inferInstance rfl rfl rfl rfl rfl inferInstance rfl ?_))
    refine Pw.re (d := 4) (v' := .int .u64 (a + b)) rfl (congrArg (Value.int .u64) (wu (by omega) (by omega))) ?_
    exact Pw.ret_ (x := ()) (.tmp rfl (.tmp rfl .nil)) (by unfold addR; rw [if_pos (by omega)]; rfl) trivial (fun w h => by trivial)
theorem rSum_ct (l : List Int) (x : Option Addr × Nat) (hb : ∀ n ∈ l, U64 n) : Ct Try.prog 24 #[sl l x] (U1 l x) (fun _ : Unit => .tuple #[.int .u64 (sumM l).1, .int .i64 (sumM l).2]) Tt (fun _ _ => True) := by
  obtain ⟨A, c⟩ := x
  refine Ct.start Try.func24 rfl rfl (slots_of rfl slots1) (fun D w0 => ?_)
  refine Pw.use (p := l.length ≤ maxLen) (fun w h => (fact0 h).top) (fun htop => ?_)
  have htop := top63 htop
  repeat (first | (with_reducible first | refine Pw.seq ?_ | refine Pw.region ?_ | refine Pw.nil ?_ | refine Pw.then_ ?_ | refine Pw.skip ?_ | refine Pw.block ?_ | refine Pw.exit ?_ | refine Pw.inX ?_ | refine Pw.inN ?_ | refine Pw.inR ?_ | refine Pw.thenX ?_ | refine Pw.thenR ?_ | refine Pw.ret ?_) | refine Pw.list (Pw.pure rfl rfl rfl ?_) | refine Pw.inY rfl ?_ | refine Pw.list (Pw.off rfl rfl ?_) | refine Pw.condT rfl ?_ | refine Pw.condF rfl ?_)
  refine Pw.loopJ (σ := Nat) (fun i => i ≤ l.length ∧ lsum (l.take i) ≤ 18446744073709551615) (fun i => ⟨[(0, .slice A l.length c), (4, .int .u64 (lsum (l.take i))), (9, .int .i64 l.length), (10, .int .i64 i)], [], [Ints .u64 l A c]⟩) (fun i => l.length - i) 0 ⟨Nat.zero_le _, by simp [lsum]⟩ (Pw.enter ⟨rfl, rfl, rfl, rfl, trivial⟩ (fun _ h => h)) ?_
  rintro i ⟨hi, hs⟩
  dsimp only at hi hs ⊢
  repeat (first | (with_reducible first | refine Pw.seq ?_ | refine Pw.region ?_ | refine Pw.nil ?_ | refine Pw.then_ ?_ | refine Pw.skip ?_ | refine Pw.block ?_ | refine Pw.exit ?_ | refine Pw.inX ?_ | refine Pw.inN ?_ | refine Pw.inR ?_ | refine Pw.thenX ?_ | refine Pw.thenR ?_ | refine Pw.ret ?_) | refine Pw.list (Pw.pure rfl rfl rfl ?_) | refine Pw.inY rfl ?_ | refine Pw.list (Pw.off rfl rfl ?_) | refine Pw.condT rfl ?_ | refine Pw.condF rfl ?_)
  refine Pw.condD rfl (fun c3 => ?_) (fun c3 => ?_)
  · obtain ⟨y, hy, hm⟩ := get_at (show i < l.length by omega)
    have hyb := hb y hm
    have h0 := lsum_nonneg (l := l.take i) (fun n hn => hb n (List.mem_of_mem_take hn))
    have e1 : lsum (l.take (i + 1)) = lsum (l.take i) + y := by rw [take_snoc hy, lsum_snoc]
    repeat (first | (with_reducible first | refine Pw.seq ?_ | refine Pw.region ?_ | refine Pw.nil ?_ | refine Pw.then_ ?_ | refine Pw.skip ?_ | refine Pw.block ?_ | refine Pw.exit ?_ | refine Pw.inX ?_ | refine Pw.inN ?_ | refine Pw.inR ?_ | refine Pw.thenX ?_ | refine Pw.thenR ?_ | refine Pw.ret ?_) | refine Pw.list (Pw.pure rfl rfl rfl ?_) | refine Pw.inY rfl ?_ | refine Pw.list (Pw.off rfl rfl ?_) | refine Pw.condT rfl ?_ | refine Pw.condF rfl ?_)
    refine Pw.list (Pw.index rfl rfl rfl rfl (Int.natCast_nonneg i) c3 (fun w h => (fact0 h).has (Int.natCast_nonneg i) c3) rfl rfl ?_)
    rintro ad rfl
    refine Pw.list (Pw.load1 rfl rfl (fun w hs => by first | exact (fact0 hs.all).cell (by first | assumption | omega) (by first | assumption | omega) | exact (fact1 hs.all).cell (by first | assumption | omega) (by first | assumption | omega) | exact (fact2 hs.all).cell (by first | assumption | omega) (by first | assumption | omega) | exact (fact3 hs.all).cell (by first | assumption | omega) (by first | assumption | omega)) rfl rfl ?_)
    rw [get_rd hy]
    repeat (first | (with_reducible first | refine Pw.seq ?_ | refine Pw.region ?_ | refine Pw.nil ?_ | refine Pw.then_ ?_ | refine Pw.skip ?_ | refine Pw.block ?_ | refine Pw.exit ?_ | refine Pw.inX ?_ | refine Pw.inN ?_ | refine Pw.inR ?_ | refine Pw.thenX ?_ | refine Pw.thenR ?_ | refine Pw.ret ?_) | refine Pw.list (Pw.pure rfl rfl rfl ?_) | refine Pw.inY rfl ?_ | refine Pw.list (Pw.off rfl rfl ?_) | refine Pw.condT rfl ?_ | refine Pw.condF rfl ?_)
    refine Pw.list (Pw.call (rAdd_ct (lsum (l.take i)) y ⟨h0, hs⟩ hyb) rfl rfl rfl (by kernel_rfl) rfl rfl (fun w h => trivial) ?_)
    intro _ _
    by_cases h1 : lsum (l.take i) + y ≤ 18446744073709551615
    · have ea : addR (lsum (l.take i)) y = (lsum (l.take (i + 1)), 0) := by unfold addR; rw [if_pos h1, e1]
      rw [ea]
      repeat (first | (with_reducible first | refine Pw.seq ?_ | refine Pw.region ?_ | refine Pw.nil ?_ | refine Pw.then_ ?_ | refine Pw.skip ?_ | refine Pw.block ?_ | refine Pw.exit ?_ | refine Pw.inX ?_ | refine Pw.inN ?_ | refine Pw.inR ?_ | refine Pw.thenX ?_ | refine Pw.thenR ?_ | refine Pw.ret ?_) | refine Pw.list (Pw.pure rfl rfl rfl ?_) | refine Pw.inY rfl ?_ | refine Pw.list (Pw.off rfl rfl ?_) | refine Pw.condT rfl ?_ | refine Pw.condF rfl ?_ | refine Pw.list (Pw.box rfl rfl rfl rfl (fun _ => ?_)) | refine Pw.list (Pw.alloc rfl rfl rfl rfl rfl (fun _ => ?_)) | refine Pw.list (Pw.build rfl rfl rfl rfl ?_) | refine Pw.list (Pw.ld rfl inferInstance rfl rfl rfl ?_) | refine Pw.list (Pw.sto rfl rfl inferInstance rfl rfl rfl rfl rfl inferInstance rfl ?_))
      refine Pw.re (d := 10) (v' := .int .i64 ((i + 1 : Nat) : Int)) rfl (congrArg (Value.int .i64) (i64s (by omega) htop)) ?_
      exact Pw.again (i + 1) ⟨by omega, by omega⟩ (by show l.length - (i + 1) < l.length - i; omega) ⟨rfl, rfl, rfl, rfl, trivial⟩ rfl (fun w h => allTail h)
    · have ea : addR (lsum (l.take i)) y = (0, 3) := by unfold addR; rw [if_neg h1]
      rw [ea]
      have h2 := lsum_take_le hb (i + 1)
      repeat (first | (with_reducible first | refine Pw.seq ?_ | refine Pw.region ?_ | refine Pw.nil ?_ | refine Pw.then_ ?_ | refine Pw.skip ?_ | refine Pw.block ?_ | refine Pw.exit ?_ | refine Pw.inX ?_ | refine Pw.inN ?_ | refine Pw.inR ?_ | refine Pw.thenX ?_ | refine Pw.thenR ?_ | refine Pw.ret ?_) | refine Pw.list (Pw.pure rfl rfl rfl ?_) | refine Pw.inY rfl ?_ | refine Pw.list (Pw.off rfl rfl ?_) | refine Pw.condT rfl ?_ | refine Pw.condF rfl ?_ | refine Pw.list (Pw.box rfl rfl rfl rfl (fun _ => ?_)) | refine Pw.list (Pw.alloc rfl rfl rfl rfl rfl (fun _ => ?_)) | refine Pw.list (Pw.build rfl rfl rfl rfl ?_) | refine Pw.list (Pw.ld rfl inferInstance rfl rfl rfl ?_) | refine Pw.list (Pw.sto rfl rfl inferInstance rfl rfl rfl rfl rfl inferInstance rfl ?_))
      exact Pw.ret_ (x := ()) (.tmp rfl (.tmp rfl .nil)) (by unfold sumM; rw [if_neg (by omega)]; rfl) trivial (fun w h => by trivial)
  · repeat (first | (with_reducible first | refine Pw.seq ?_ | refine Pw.region ?_ | refine Pw.nil ?_ | refine Pw.then_ ?_ | refine Pw.skip ?_ | refine Pw.block ?_ | refine Pw.exit ?_ | refine Pw.inX ?_ | refine Pw.inN ?_ | refine Pw.inR ?_ | refine Pw.thenX ?_ | refine Pw.thenR ?_ | refine Pw.ret ?_) | refine Pw.list (Pw.pure rfl rfl rfl ?_) | refine Pw.inY rfl ?_ | refine Pw.list (Pw.off rfl rfl ?_) | refine Pw.condT rfl ?_ | refine Pw.condF rfl ?_)
    rw [List.take_of_length_le (by omega)] at hs ⊢
    exact Pw.ret_ (x := ()) (.tmp rfl (.tmp rfl .nil)) (by unfold sumM; rw [if_pos hs]; rfl) trivial (fun w h => by trivial)
end Go.Proofs.Wk
/- Walks of layer 10 (graph): approvers, supported, seats, total. -/
namespace Go.Proofs.Wk
open Go.RowKit
set_option maxRecDepth 100000
set_option maxHeartbeats 1000000
attribute [local irreducible] Pw OpG
set_option linter.unusedVariables false
set_option linter.unusedSimpArgs false
theorem formB_spec {s : Sn} (h : formB s = true) : s.vs.length ≤ 32 ∧ s.cs.length ≤ 32 ∧ risB s.cs = true ∧ ∀ j, j < s.vs.length → vOk s.vs j = true := by
  unfold formB at h
  simp only [Bool.and_eq_true, decide_eq_true_eq] at h
  exact ⟨h.1, h.2.1, h.2.2.1, allB_iff.1 h.2.2.2⟩
end Go.Proofs.Wk
/- The document's snapshots: rising, Formed. -/
namespace Go.Proofs.Wk
open Go.RowKit
set_option maxRecDepth 100000
set_option maxHeartbeats 4000000
attribute [local irreducible] Pw OpG
set_option linter.unusedVariables false
set_option linter.unusedSimpArgs false
theorem rrising_ct (l : List Int) (x : Option Addr × Nat) : Ct Try.prog 23 #[sl l x] (I1 l x) (fun _ : Unit => .bool (risB l)) Tt (fun _ _ => True) := by
  obtain ⟨A, c⟩ := x
  refine Ct.start Try.func23 rfl rfl (slots_of rfl slots1) (fun D w0 => ?_)
  refine Pw.use (p := l.length ≤ maxLen) (fun w h => (fact0 h).top) (fun htop => ?_)
  have htop := top63 htop
  repeat (first | (with_reducible first | refine Pw.seq ?_ | refine Pw.region ?_ | refine Pw.nil ?_ | refine Pw.then_ ?_ | refine Pw.skip ?_ | refine Pw.block ?_ | refine Pw.exit ?_ | refine Pw.inX ?_ | refine Pw.inN ?_ | refine Pw.inR ?_ | refine Pw.thenX ?_ | refine Pw.thenR ?_ | refine Pw.ret ?_) | refine Pw.list (Pw.pure rfl rfl rfl ?_) | refine Pw.inY rfl ?_ | refine Pw.list (Pw.off rfl rfl ?_) | refine Pw.condT rfl ?_ | refine Pw.condF rfl ?_)
  refine Pw.loopJ (σ := Nat) (fun i => i ≤ l.length ∧ ∀ j, j < i → okAt l j = true) (fun i => ⟨[(0, .slice A l.length c), (5, .int .i64 l.length), (6, .int .i64 i)], [], [Ints .i64 l A c]⟩) (fun i => l.length - i) 0 ⟨Nat.zero_le _, fun j hj => absurd hj (Nat.not_lt_zero j)⟩ (Pw.enter ⟨rfl, rfl, rfl, trivial⟩ (fun _ h => h)) ?_
  rintro i ⟨hi, hj⟩
  dsimp only at hi hj ⊢
  repeat (first | (with_reducible first | refine Pw.seq ?_ | refine Pw.region ?_ | refine Pw.nil ?_ | refine Pw.then_ ?_ | refine Pw.skip ?_ | refine Pw.block ?_ | refine Pw.exit ?_ | refine Pw.inX ?_ | refine Pw.inN ?_ | refine Pw.inR ?_ | refine Pw.thenX ?_ | refine Pw.thenR ?_ | refine Pw.ret ?_) | refine Pw.list (Pw.pure rfl rfl rfl ?_) | refine Pw.inY rfl ?_ | refine Pw.list (Pw.off rfl rfl ?_) | refine Pw.condT rfl ?_ | refine Pw.condF rfl ?_)
  refine Pw.condD rfl (fun c3 => ?_) (fun c3 => ?_)
  · have hi0 : (0 : Int) ≤ (i : Int) := Int.natCast_nonneg i
    have hi2 : i < l.length := by omega
    refine Pw.use (p := A.isSome = true) (fun w h => (hv w h : Ints .i64 l A c w).has hi0 c3) (fun hA => ?_)
    obtain ⟨ad, rfl⟩ := Option.isSome_iff_exists.1 hA
    repeat (first | (with_reducible first | refine Pw.seq ?_ | refine Pw.region ?_ | refine Pw.nil ?_ | refine Pw.then_ ?_ | refine Pw.skip ?_ | refine Pw.block ?_ | refine Pw.exit ?_ | refine Pw.inX ?_ | refine Pw.inN ?_ | refine Pw.inR ?_ | refine Pw.thenX ?_ | refine Pw.thenR ?_ | refine Pw.ret ?_) | refine Pw.list (Pw.pure rfl rfl rfl ?_) | refine Pw.inY rfl ?_ | refine Pw.list (Pw.off rfl rfl ?_) | refine Pw.condT rfl ?_ | refine Pw.condF rfl ?_ | refine Pw.list (Pw.box rfl rfl rfl rfl (fun _ => ?_)) | refine Pw.list (Pw.alloc rfl rfl rfl rfl rfl (fun _ => ?_)) | refine Pw.list (Pw.build rfl rfl rfl rfl ?_) | refine Pw.list (Pw.ld rfl inferInstance rfl rfl rfl ?_) | refine Pw.list (Pw.sto rfl rfl inferInstance rfl rfl rfl rfl rfl inferInstance rfl ?_))
    refine Pw.drawnG mixed rfl rfl ?_
    refine Pw.takeP 0 (nb 28 1) rfl rfl rfl rfl (by kernel_rfl) np sf ?_
    refine Pw.takeP 1 (nb 28 3) rfl rfl rfl rfl (by kernel_rfl) np sf ?_
    refine Pw.takeIx 2 (nb 28 7) rfl rfl rfl rfl rfl (by first | assumption | omega) (by first | assumption | omega) rfl rfl (by kernel_rfl) np sf ?_
    refine Pw.takeLd 3 (nb 28 15) rfl rfl rfl (fun w hS => by first | exact own_cell (fact0 hS) (by first | assumption | omega) (by first | assumption | omega) | exact own_cellX (fact0 hS) (by first | assumption | omega) (by first | assumption | omega) | exact (fact0 hS).cell (by first | assumption | omega) (by first | assumption | omega) | exact (fact1 hS).cell (by first | assumption | omega) (by first | assumption | omega) | exact (fact2 hS).cell (by first | assumption | omega) (by first | assumption | omega) | exact (fact3 hS).cell (by first | assumption | omega) (by first | assumption | omega)) rfl rfl (by kernel_rfl) np sf ?_
    refine Pw.takeP 4 (nb 28 31) rfl rfl rfl rfl (by kernel_rfl) np sf ?_
    refine Pw.takeP 5 (nb 28 63) rfl rfl rfl rfl (by kernel_rfl) np sf ?_
    refine Pw.split 14 rfl (fun c4 => ?_) (fun c4 => ?_)
    · skip
      refine Pw.takeO 6 (nb 28 127) rfl rfl rfl (by kernel_rfl) np sf ?_
      refine Pw.takeO 7 (nb 28 255) rfl rfl rfl (by kernel_rfl) np sf ?_
      refine Pw.takeO 8 (nb 28 511) rfl rfl rfl (by kernel_rfl) np sf ?_
      refine Pw.takeO 9 (nb 28 1023) rfl rfl rfl (by kernel_rfl) np sf ?_
      refine Pw.takeO 10 (nb 28 2047) rfl rfl rfl (by kernel_rfl) np sf ?_
      refine Pw.takeP 11 (nb 28 4095) rfl rfl rfl rfl (by kernel_rfl) np sf ?_
      refine Pw.takeP 12 (nb 28 8191) rfl rfl rfl rfl (by kernel_rfl) np sf ?_
      refine Pw.takeO 13 (nb 28 16383) rfl rfl rfl (by kernel_rfl) np sf ?_
      refine Pw.takeO 14 (nb 28 32767) rfl rfl rfl (by kernel_rfl) np sf ?_
      refine Pw.takeO 15 (nb 28 65535) rfl rfl rfl (by kernel_rfl) np sf ?_
      refine Pw.takeO 16 (nb 28 131071) rfl rfl rfl (by kernel_rfl) np sf ?_
      refine Pw.takeO 17 (nb 28 262143) rfl rfl rfl (by kernel_rfl) np sf ?_
      refine Pw.takeO 18 (nb 28 524287) rfl rfl rfl (by kernel_rfl) np sf ?_
      refine Pw.takeO 19 (nb 28 1048575) rfl rfl rfl (by kernel_rfl) np sf ?_
      refine Pw.takeO 20 (nb 28 2097151) rfl rfl rfl (by kernel_rfl) np sf ?_
      refine Pw.takeO 21 (nb 28 4194303) rfl rfl rfl (by kernel_rfl) np sf ?_
      refine Pw.takeO 22 (nb 28 8388607) rfl rfl rfl (by kernel_rfl) np sf ?_
      refine Pw.takeO 23 (nb 28 16777215) rfl rfl rfl (by kernel_rfl) np sf ?_
      refine Pw.takeO 24 (nb 28 33554431) rfl rfl rfl (by kernel_rfl) np sf ?_
      refine Pw.takeO 25 (nb 28 67108863) rfl rfl rfl (by kernel_rfl) np sf ?_
      refine Pw.takeO 26 (nb 28 134217727) rfl rfl rfl (by kernel_rfl) np sf ?_
      refine Pw.takeP 27 (nb 28 268435455) rfl rfl rfl rfl (by kernel_rfl) np sf ?_
      refine Pw.done (by kernel_rfl) ?_
      repeat (first | (with_reducible first | refine Pw.seq ?_ | refine Pw.region ?_ | refine Pw.nil ?_ | refine Pw.then_ ?_ | refine Pw.skip ?_ | refine Pw.block ?_ | refine Pw.exit ?_ | refine Pw.inX ?_ | refine Pw.inN ?_ | refine Pw.inR ?_ | refine Pw.thenX ?_ | refine Pw.thenR ?_ | refine Pw.ret ?_) | refine Pw.list (Pw.pure rfl rfl rfl ?_) | refine Pw.inY rfl ?_ | refine Pw.list (Pw.off rfl rfl ?_) | refine Pw.condT rfl ?_ | refine Pw.condF rfl ?_ | refine Pw.list (Pw.box rfl rfl rfl rfl (fun _ => ?_)) | refine Pw.list (Pw.alloc rfl rfl rfl rfl rfl (fun _ => ?_)) | refine Pw.list (Pw.build rfl rfl rfl rfl ?_) | refine Pw.list (Pw.ld rfl inferInstance rfl rfl rfl ?_) | refine Pw.list (Pw.sto rfl rfl inferInstance rfl rfl rfl rfl rfl inferInstance rfl ?_))
      exact Pw.ret_ (x := ()) (.tmp rfl .nil) (congrArg Value.bool (allB_false hi2 (okAt_no (by omega))).symm) trivial (fun w h => by trivial)
    refine Pw.takeP 6 (nb 28 127) rfl rfl rfl rfl (by kernel_rfl) np sf ?_
    refine Pw.takeP 7 (nb 28 255) rfl rfl rfl rfl (by kernel_rfl) np sf ?_
    refine Pw.takeIx 8 (nb 28 511) rfl rfl rfl rfl rfl (by first | assumption | omega) (by first | assumption | omega) rfl rfl (by kernel_rfl) np sf ?_
    refine Pw.takeLd 9 (nb 28 1023) rfl rfl rfl (fun w hS => by first | exact own_cell (fact0 hS) (by first | assumption | omega) (by first | assumption | omega) | exact own_cellX (fact0 hS) (by first | assumption | omega) (by first | assumption | omega) | exact (fact0 hS).cell (by first | assumption | omega) (by first | assumption | omega) | exact (fact1 hS).cell (by first | assumption | omega) (by first | assumption | omega) | exact (fact2 hS).cell (by first | assumption | omega) (by first | assumption | omega) | exact (fact3 hS).cell (by first | assumption | omega) (by first | assumption | omega)) rfl rfl (by kernel_rfl) np sf ?_
    refine Pw.takeP 10 (nb 28 2047) rfl rfl rfl rfl (by kernel_rfl) np sf ?_
    refine Pw.takeP 11 (nb 28 4095) rfl rfl rfl rfl (by kernel_rfl) np sf ?_
    refine Pw.takeP 12 (nb 28 8191) rfl rfl rfl rfl (by kernel_rfl) np sf ?_
    refine Pw.split 21 rfl (fun c5 => ?_) (fun c5 => ?_)
    · skip
      refine Pw.takeO 13 (nb 28 16383) rfl rfl rfl (by kernel_rfl) np sf ?_
      refine Pw.takeO 14 (nb 28 32767) rfl rfl rfl (by kernel_rfl) np sf ?_
      refine Pw.takeO 15 (nb 28 65535) rfl rfl rfl (by kernel_rfl) np sf ?_
      refine Pw.takeO 16 (nb 28 131071) rfl rfl rfl (by kernel_rfl) np sf ?_
      refine Pw.takeO 17 (nb 28 262143) rfl rfl rfl (by kernel_rfl) np sf ?_
      refine Pw.takeO 18 (nb 28 524287) rfl rfl rfl (by kernel_rfl) np sf ?_
      refine Pw.takeO 19 (nb 28 1048575) rfl rfl rfl (by kernel_rfl) np sf ?_
      refine Pw.takeO 20 (nb 28 2097151) rfl rfl rfl (by kernel_rfl) np sf ?_
      refine Pw.takeO 21 (nb 28 4194303) rfl rfl rfl (by kernel_rfl) np sf ?_
      refine Pw.takeO 22 (nb 28 8388607) rfl rfl rfl (by kernel_rfl) np sf ?_
      refine Pw.takeO 23 (nb 28 16777215) rfl rfl rfl (by kernel_rfl) np sf ?_
      refine Pw.takeO 24 (nb 28 33554431) rfl rfl rfl (by kernel_rfl) np sf ?_
      refine Pw.takeO 25 (nb 28 67108863) rfl rfl rfl (by kernel_rfl) np sf ?_
      refine Pw.takeO 26 (nb 28 134217727) rfl rfl rfl (by kernel_rfl) np sf ?_
      refine Pw.takeP 27 (nb 28 268435455) rfl rfl rfl rfl (by kernel_rfl) np sf ?_
      refine Pw.done (by kernel_rfl) ?_
      repeat (first | (with_reducible first | refine Pw.seq ?_ | refine Pw.region ?_ | refine Pw.nil ?_ | refine Pw.then_ ?_ | refine Pw.skip ?_ | refine Pw.block ?_ | refine Pw.exit ?_ | refine Pw.inX ?_ | refine Pw.inN ?_ | refine Pw.inR ?_ | refine Pw.thenX ?_ | refine Pw.thenR ?_ | refine Pw.ret ?_) | refine Pw.list (Pw.pure rfl rfl rfl ?_) | refine Pw.inY rfl ?_ | refine Pw.list (Pw.off rfl rfl ?_) | refine Pw.condT rfl ?_ | refine Pw.condF rfl ?_ | refine Pw.list (Pw.box rfl rfl rfl rfl (fun _ => ?_)) | refine Pw.list (Pw.alloc rfl rfl rfl rfl rfl (fun _ => ?_)) | refine Pw.list (Pw.build rfl rfl rfl rfl ?_) | refine Pw.list (Pw.ld rfl inferInstance rfl rfl rfl ?_) | refine Pw.list (Pw.sto rfl rfl inferInstance rfl rfl rfl rfl rfl inferInstance rfl ?_))
      exact Pw.ret_ (x := ()) (.tmp rfl .nil) (congrArg Value.bool (allB_false hi2 (okAt_no (by omega))).symm) trivial (fun w h => by trivial)
    refine Pw.takeP 13 (nb 28 16383) rfl rfl rfl rfl (by kernel_rfl) np sf ?_
    refine Pw.takeP 14 (nb 28 32767) rfl rfl rfl rfl (by kernel_rfl) np sf ?_
    refine Pw.takeP 15 (nb 28 65535) rfl rfl rfl rfl (by kernel_rfl) np sf ?_
    refine Pw.split 24 rfl (fun c6 => ?_) (fun c6 => ?_)
    · skip
      refine Pw.takeP 16 (nb 28 131071) rfl rfl rfl rfl (by kernel_rfl) np sf ?_
      refine Pw.takeP 17 (nb 28 262143) rfl rfl rfl rfl (by kernel_rfl) np sf ?_
      refine Pw.takeP 18 (nb 28 524287) rfl rfl rfl rfl (by kernel_rfl) np sf ?_
      refine Pw.re (d := 27) (v' := .int .i64 ((i : Int) - 1)) rfl (congrArg (Value.int .i64) (wi64 (by omega) (by omega))) ?_
      have hi3 : (0 : Int) ≤ (i : Int) - 1 := by omega
      have hi4 : (i : Int) - 1 < (l.length : Int) := by omega
      refine Pw.takeIx 19 (nb 28 1048575) rfl rfl rfl rfl rfl (by first | assumption | omega) (by first | assumption | omega) rfl rfl (by kernel_rfl) np sf ?_
      refine Pw.takeLd 20 (nb 28 2097151) rfl rfl rfl (fun w hS => by first | exact own_cell (fact0 hS) (by first | assumption | omega) (by first | assumption | omega) | exact own_cellX (fact0 hS) (by first | assumption | omega) (by first | assumption | omega) | exact (fact0 hS).cell (by first | assumption | omega) (by first | assumption | omega) | exact (fact1 hS).cell (by first | assumption | omega) (by first | assumption | omega) | exact (fact2 hS).cell (by first | assumption | omega) (by first | assumption | omega) | exact (fact3 hS).cell (by first | assumption | omega) (by first | assumption | omega)) rfl rfl (by kernel_rfl) np sf ?_
      refine Pw.takeP 21 (nb 28 4194303) rfl rfl rfl rfl (by kernel_rfl) np sf ?_
      refine Pw.takeP 22 (nb 28 8388607) rfl rfl rfl rfl (by kernel_rfl) np sf ?_
      refine Pw.takeIx 23 (nb 28 16777215) rfl rfl rfl rfl rfl (by first | assumption | omega) (by first | assumption | omega) rfl rfl (by kernel_rfl) np sf ?_
      refine Pw.takeLd 24 (nb 28 33554431) rfl rfl rfl (fun w hS => by first | exact own_cell (fact0 hS) (by first | assumption | omega) (by first | assumption | omega) | exact own_cellX (fact0 hS) (by first | assumption | omega) (by first | assumption | omega) | exact (fact0 hS).cell (by first | assumption | omega) (by first | assumption | omega) | exact (fact1 hS).cell (by first | assumption | omega) (by first | assumption | omega) | exact (fact2 hS).cell (by first | assumption | omega) (by first | assumption | omega) | exact (fact3 hS).cell (by first | assumption | omega) (by first | assumption | omega)) rfl rfl (by kernel_rfl) np sf ?_
      refine Pw.takeP 25 (nb 28 67108863) rfl rfl rfl rfl (by kernel_rfl) np sf ?_
      refine Pw.takeP 26 (nb 28 134217727) rfl rfl rfl rfl (by kernel_rfl) np sf ?_
      refine Pw.takeP 27 (nb 28 268435455) rfl rfl rfl rfl (by kernel_rfl) np sf ?_
      refine Pw.done (by kernel_rfl) ?_
      repeat (first | (with_reducible first | refine Pw.seq ?_ | refine Pw.region ?_ | refine Pw.nil ?_ | refine Pw.then_ ?_ | refine Pw.skip ?_ | refine Pw.block ?_ | refine Pw.exit ?_ | refine Pw.inX ?_ | refine Pw.inN ?_ | refine Pw.inR ?_ | refine Pw.thenX ?_ | refine Pw.thenR ?_ | refine Pw.ret ?_) | refine Pw.list (Pw.pure rfl rfl rfl ?_) | refine Pw.inY rfl ?_ | refine Pw.list (Pw.off rfl rfl ?_) | refine Pw.condT rfl ?_ | refine Pw.condF rfl ?_ | refine Pw.list (Pw.box rfl rfl rfl rfl (fun _ => ?_)) | refine Pw.list (Pw.alloc rfl rfl rfl rfl rfl (fun _ => ?_)) | refine Pw.list (Pw.build rfl rfl rfl rfl ?_) | refine Pw.list (Pw.ld rfl inferInstance rfl rfl rfl ?_) | refine Pw.list (Pw.sto rfl rfl inferInstance rfl rfl rfl rfl rfl inferInstance rfl ?_))
      refine Pw.condD rfl (fun c7 => ?_) (fun c7 => ?_)
      · repeat (first | (with_reducible first | refine Pw.seq ?_ | refine Pw.region ?_ | refine Pw.nil ?_ | refine Pw.then_ ?_ | refine Pw.skip ?_ | refine Pw.block ?_ | refine Pw.exit ?_ | refine Pw.inX ?_ | refine Pw.inN ?_ | refine Pw.inR ?_ | refine Pw.thenX ?_ | refine Pw.thenR ?_ | refine Pw.ret ?_) | refine Pw.list (Pw.pure rfl rfl rfl ?_) | refine Pw.inY rfl ?_ | refine Pw.list (Pw.off rfl rfl ?_) | refine Pw.condT rfl ?_ | refine Pw.condF rfl ?_ | refine Pw.list (Pw.box rfl rfl rfl rfl (fun _ => ?_)) | refine Pw.list (Pw.alloc rfl rfl rfl rfl rfl (fun _ => ?_)) | refine Pw.list (Pw.build rfl rfl rfl rfl ?_) | refine Pw.list (Pw.ld rfl inferInstance rfl rfl rfl ?_) | refine Pw.list (Pw.sto rfl rfl inferInstance rfl rfl rfl rfl rfl inferInstance rfl ?_))
        exact Pw.ret_ (x := ()) (.tmp rfl .nil) (congrArg Value.bool (allB_false hi2 (okAt_no (by omega))).symm) trivial (fun w h => by trivial)
      repeat (first | (with_reducible first | refine Pw.seq ?_ | refine Pw.region ?_ | refine Pw.nil ?_ | refine Pw.then_ ?_ | refine Pw.skip ?_ | refine Pw.block ?_ | refine Pw.exit ?_ | refine Pw.inX ?_ | refine Pw.inN ?_ | refine Pw.inR ?_ | refine Pw.thenX ?_ | refine Pw.thenR ?_ | refine Pw.ret ?_) | refine Pw.list (Pw.pure rfl rfl rfl ?_) | refine Pw.inY rfl ?_ | refine Pw.list (Pw.off rfl rfl ?_) | refine Pw.condT rfl ?_ | refine Pw.condF rfl ?_ | refine Pw.list (Pw.box rfl rfl rfl rfl (fun _ => ?_)) | refine Pw.list (Pw.alloc rfl rfl rfl rfl rfl (fun _ => ?_)) | refine Pw.list (Pw.build rfl rfl rfl rfl ?_) | refine Pw.list (Pw.ld rfl inferInstance rfl rfl rfl ?_) | refine Pw.list (Pw.sto rfl rfl inferInstance rfl rfl rfl rfl rfl inferInstance rfl ?_))
      refine Pw.re (d := 6) (v' := .int .i64 ((i + 1 : Nat) : Int)) rfl (congrArg (Value.int .i64) (i64s (by omega) htop)) ?_
      exact Pw.again (i + 1) ⟨by omega, fun j h => by
        rcases Nat.lt_or_ge j i with h' | h'
        · exact hj j h'
        · obtain rfl : j = i := by omega
          exact okAt_iff.2 (by omega)⟩ (by show l.length - (i + 1) < l.length - i; omega) ⟨rfl, rfl, rfl, trivial⟩ rfl (fun w h => h)
    · skip
      refine Pw.takeO 16 (nb 28 131071) rfl rfl rfl (by kernel_rfl) np sf ?_
      refine Pw.takeO 17 (nb 28 262143) rfl rfl rfl (by kernel_rfl) np sf ?_
      refine Pw.takeO 18 (nb 28 524287) rfl rfl rfl (by kernel_rfl) np sf ?_
      refine Pw.takeO 19 (nb 28 1048575) rfl rfl rfl (by kernel_rfl) np sf ?_
      refine Pw.takeO 20 (nb 28 2097151) rfl rfl rfl (by kernel_rfl) np sf ?_
      refine Pw.takeO 21 (nb 28 4194303) rfl rfl rfl (by kernel_rfl) np sf ?_
      refine Pw.takeO 22 (nb 28 8388607) rfl rfl rfl (by kernel_rfl) np sf ?_
      refine Pw.takeO 23 (nb 28 16777215) rfl rfl rfl (by kernel_rfl) np sf ?_
      refine Pw.takeO 24 (nb 28 33554431) rfl rfl rfl (by kernel_rfl) np sf ?_
      refine Pw.takeO 25 (nb 28 67108863) rfl rfl rfl (by kernel_rfl) np sf ?_
      refine Pw.takeP 26 (nb 28 134217727) rfl rfl rfl rfl (by kernel_rfl) np sf ?_
      refine Pw.takeP 27 (nb 28 268435455) rfl rfl rfl rfl (by kernel_rfl) np sf ?_
      refine Pw.done (by kernel_rfl) ?_
      repeat (first | (with_reducible first | refine Pw.seq ?_ | refine Pw.region ?_ | refine Pw.nil ?_ | refine Pw.then_ ?_ | refine Pw.skip ?_ | refine Pw.block ?_ | refine Pw.exit ?_ | refine Pw.inX ?_ | refine Pw.inN ?_ | refine Pw.inR ?_ | refine Pw.thenX ?_ | refine Pw.thenR ?_ | refine Pw.ret ?_) | refine Pw.list (Pw.pure rfl rfl rfl ?_) | refine Pw.inY rfl ?_ | refine Pw.list (Pw.off rfl rfl ?_) | refine Pw.condT rfl ?_ | refine Pw.condF rfl ?_ | refine Pw.list (Pw.box rfl rfl rfl rfl (fun _ => ?_)) | refine Pw.list (Pw.alloc rfl rfl rfl rfl rfl (fun _ => ?_)) | refine Pw.list (Pw.build rfl rfl rfl rfl ?_) | refine Pw.list (Pw.ld rfl inferInstance rfl rfl rfl ?_) | refine Pw.list (Pw.sto rfl rfl inferInstance rfl rfl rfl rfl rfl inferInstance rfl ?_))
      refine Pw.re (d := 6) (v' := .int .i64 ((i + 1 : Nat) : Int)) rfl (congrArg (Value.int .i64) (i64s (by omega) htop)) ?_
      exact Pw.again (i + 1) ⟨by omega, fun j h => by
        rcases Nat.lt_or_ge j i with h' | h'
        · exact hj j h'
        · obtain rfl : j = i := by omega
          exact okAt_iff.2 (by omega)⟩ (by show l.length - (i + 1) < l.length - i; omega) ⟨rfl, rfl, rfl, trivial⟩ rfl (fun w h => h)
  · repeat (first | (with_reducible first | refine Pw.seq ?_ | refine Pw.region ?_ | refine Pw.nil ?_ | refine Pw.then_ ?_ | refine Pw.skip ?_ | refine Pw.block ?_ | refine Pw.exit ?_ | refine Pw.inX ?_ | refine Pw.inN ?_ | refine Pw.inR ?_ | refine Pw.thenX ?_ | refine Pw.thenR ?_ | refine Pw.ret ?_) | refine Pw.list (Pw.pure rfl rfl rfl ?_) | refine Pw.inY rfl ?_ | refine Pw.list (Pw.off rfl rfl ?_) | refine Pw.condT rfl ?_ | refine Pw.condF rfl ?_)
    exact Pw.ret_ (x := ()) (.tmp rfl .nil) (congrArg Value.bool (allB_true (fun j h => hj j (by omega))).symm) trivial (fun w h => by trivial)
def stL (vs : List Vtr) : List Int := vs.map Vtr.st
theorem stL_snoc {vs : List Vtr} {i : Nat} {v : Vtr} (h : vs[i]? = some v) : stL (vs.take (i + 1)) = stL (vs.take i) ++ [v.st] := by unfold stL; rw [take_snoc h, List.map_append]; rfl
theorem lsum_st (vs : List Vtr) : lsum (stL vs) = sumSt vs := by
  induction vs with
  | nil => rfl
  | cons v r ih => show v.st + lsum (stL r) = v.st + sumSt r; rw [ih]
/-- What is asked of a voter, but for the sum. -/
def vOk1 (vs : List Vtr) (i : Nat) : Prop := ∀ v, vs[i]? = some v → ¬ v.id ∈ idsOf (vs.take i) ∧ 0 ≤ v.id ∧ v.id ≤ 2147483647 ∧ v.pk.length ≤ 8 ∧ risB v.pk = true
theorem vOk_of1 {vs : List Vtr} (h0 : ∀ v ∈ vs, 0 ≤ v.st) (hs : sumSt vs ≤ 18446744073709551615) {i : Nat} (hi : i < vs.length) (h : vOk1 vs i) : vOk vs i = true := by
  have hv : vs[i]? = some vs[i] := List.getElem?_eq_getElem hi
  refine (vOk_iff hv).2 ⟨?_, h _ hv⟩
  rw [← sumSt_snoc, ← take_snoc hv]
  have e : sumSt vs = sumSt (vs.take (i + 1)) + sumSt (vs.drop (i + 1)) := by
    rw [← lsum_st, ← lsum_st, ← lsum_st, ← lsum_append]
    unfold stL
    rw [← List.map_append, List.take_append_drop]
  have h2 := sumSt_nonneg (l := vs.drop (i + 1)) (fun v hv => h0 v (List.mem_of_mem_drop hv))
  omega
theorem formB_sum {s : Sn} (h : formB s = true) : sumSt s.vs ≤ 18446744073709551615 := by
  obtain ⟨_, _, _, h4⟩ := formB_spec h
  cases hn : s.vs.length with
  | zero => rw [List.eq_nil_of_length_eq_zero hn]; decide
  | succ n =>
    have hv : s.vs[n]? = some s.vs[n] := List.getElem?_eq_getElem (by omega)
    have h5 := ((vOk_iff hv).1 (h4 n (by omega))).1
    rw [← sumSt_snoc, ← take_snoc hv, ← hn, List.take_length] at h5
    exact h5
theorem dFormed_ct (s : Sn) (hW : snW s) : Ct Try.prog 9 #[snV s] (snF s) (fun _ : Unit => .bool (formB s)) Tt (fun _ _ => True) := by
  obtain ⟨vs, ⟨A, c⟩, cs, zc⟩ := s
  refine Ct.start Try.func9 rfl rfl (slots_of rfl slots1) (fun D w0 => Pw.facts sn2 ?_)
  refine Pw.use (p := vs.length ≤ maxLen) (fun w h => (fact0 h).top) (fun htop => ?_)
  have htop := top63 htop
  repeat (first | (with_reducible first | refine Pw.seq ?_ | refine Pw.region ?_ | refine Pw.nil ?_ | refine Pw.then_ ?_ | refine Pw.skip ?_ | refine Pw.block ?_ | refine Pw.exit ?_ | refine Pw.inX ?_ | refine Pw.inN ?_ | refine Pw.inR ?_ | refine Pw.thenX ?_ | refine Pw.thenR ?_ | refine Pw.ret ?_) | refine Pw.list (Pw.pure rfl rfl rfl ?_) | refine Pw.inY rfl ?_ | refine Pw.list (Pw.off rfl rfl ?_) | refine Pw.condT rfl ?_ | refine Pw.condF rfl ?_)
  refine Pw.list (Pw.box rfl rfl rfl rfl (fun g1 => freeHead ?_))
  repeat (first | (with_reducible first | refine Pw.seq ?_ | refine Pw.region ?_ | refine Pw.nil ?_ | refine Pw.then_ ?_ | refine Pw.skip ?_ | refine Pw.block ?_ | refine Pw.exit ?_ | refine Pw.inX ?_ | refine Pw.inN ?_ | refine Pw.inR ?_ | refine Pw.thenX ?_ | refine Pw.thenR ?_ | refine Pw.ret ?_) | refine Pw.list (Pw.pure rfl rfl rfl ?_) | refine Pw.inY rfl ?_ | refine Pw.list (Pw.off rfl rfl ?_) | refine Pw.condT rfl ?_ | refine Pw.condF rfl ?_ | refine Pw.list (Pw.box rfl rfl rfl rfl (fun _ => ?_)) | refine Pw.list (Pw.alloc rfl rfl rfl rfl rfl (fun _ => ?_)) | refine Pw.list (Pw.build rfl rfl rfl rfl ?_) | refine Pw.list (Pw.ld rfl inferInstance rfl rfl rfl ?_) | refine Pw.list (Pw.sto rfl rfl inferInstance rfl rfl rfl rfl rfl inferInstance rfl ?_))
  refine Pw.split 13 rfl (fun c1 => ?_) (fun c1 => ?_)
  · dsimp only at c1
    repeat (first | (with_reducible first | refine Pw.seq ?_ | refine Pw.region ?_ | refine Pw.nil ?_ | refine Pw.then_ ?_ | refine Pw.skip ?_ | refine Pw.block ?_ | refine Pw.exit ?_ | refine Pw.inX ?_ | refine Pw.inN ?_ | refine Pw.inR ?_ | refine Pw.thenX ?_ | refine Pw.thenR ?_ | refine Pw.ret ?_) | refine Pw.list (Pw.pure rfl rfl rfl ?_) | refine Pw.inY rfl ?_ | refine Pw.list (Pw.off rfl rfl ?_) | refine Pw.condT rfl ?_ | refine Pw.condF rfl ?_ | refine Pw.list (Pw.box rfl rfl rfl rfl (fun _ => ?_)) | refine Pw.list (Pw.alloc rfl rfl rfl rfl rfl (fun _ => ?_)) | refine Pw.list (Pw.build rfl rfl rfl rfl ?_) | refine Pw.list (Pw.ld rfl inferInstance rfl rfl rfl ?_) | refine Pw.list (Pw.sto rfl rfl inferInstance rfl rfl rfl rfl rfl inferInstance rfl ?_))
    exact Pw.ret_ (x := ()) (.tmp rfl .nil) (congrArg Value.bool (formB_no (by simp only; omega)).symm) trivial (fun w h => by trivial)
  repeat (first | (with_reducible first | refine Pw.seq ?_ | refine Pw.region ?_ | refine Pw.nil ?_ | refine Pw.then_ ?_ | refine Pw.skip ?_ | refine Pw.block ?_ | refine Pw.exit ?_ | refine Pw.inX ?_ | refine Pw.inN ?_ | refine Pw.inR ?_ | refine Pw.thenX ?_ | refine Pw.thenR ?_ | refine Pw.ret ?_) | refine Pw.list (Pw.pure rfl rfl rfl ?_) | refine Pw.inY rfl ?_ | refine Pw.list (Pw.off rfl rfl ?_) | refine Pw.condT rfl ?_ | refine Pw.condF rfl ?_ | refine Pw.list (Pw.box rfl rfl rfl rfl (fun _ => ?_)) | refine Pw.list (Pw.alloc rfl rfl rfl rfl rfl (fun _ => ?_)) | refine Pw.list (Pw.build rfl rfl rfl rfl ?_) | refine Pw.list (Pw.ld rfl inferInstance rfl rfl rfl ?_) | refine Pw.list (Pw.sto rfl rfl inferInstance rfl rfl rfl rfl rfl inferInstance rfl ?_))
  refine Pw.split 19 rfl (fun c2 => ?_) (fun c2 => ?_)
  · dsimp only at c2
    repeat (first | (with_reducible first | refine Pw.seq ?_ | refine Pw.region ?_ | refine Pw.nil ?_ | refine Pw.then_ ?_ | refine Pw.skip ?_ | refine Pw.block ?_ | refine Pw.exit ?_ | refine Pw.inX ?_ | refine Pw.inN ?_ | refine Pw.inR ?_ | refine Pw.thenX ?_ | refine Pw.thenR ?_ | refine Pw.ret ?_) | refine Pw.list (Pw.pure rfl rfl rfl ?_) | refine Pw.inY rfl ?_ | refine Pw.list (Pw.off rfl rfl ?_) | refine Pw.condT rfl ?_ | refine Pw.condF rfl ?_ | refine Pw.list (Pw.box rfl rfl rfl rfl (fun _ => ?_)) | refine Pw.list (Pw.alloc rfl rfl rfl rfl rfl (fun _ => ?_)) | refine Pw.list (Pw.build rfl rfl rfl rfl ?_) | refine Pw.list (Pw.ld rfl inferInstance rfl rfl rfl ?_) | refine Pw.list (Pw.sto rfl rfl inferInstance rfl rfl rfl rfl rfl inferInstance rfl ?_))
    exact Pw.ret_ (x := ()) (.tmp rfl .nil) (congrArg Value.bool (formB_no (by simp only; omega)).symm) trivial (fun w h => by trivial)
  dsimp only at c1 c2
  repeat (first | (with_reducible first | refine Pw.seq ?_ | refine Pw.region ?_ | refine Pw.nil ?_ | refine Pw.then_ ?_ | refine Pw.skip ?_ | refine Pw.block ?_ | refine Pw.exit ?_ | refine Pw.inX ?_ | refine Pw.inN ?_ | refine Pw.inR ?_ | refine Pw.thenX ?_ | refine Pw.thenR ?_ | refine Pw.ret ?_) | refine Pw.list (Pw.pure rfl rfl rfl ?_) | refine Pw.inY rfl ?_ | refine Pw.list (Pw.off rfl rfl ?_) | refine Pw.condT rfl ?_ | refine Pw.condF rfl ?_ | refine Pw.list (Pw.box rfl rfl rfl rfl (fun _ => ?_)) | refine Pw.list (Pw.alloc rfl rfl rfl rfl rfl (fun _ => ?_)) | refine Pw.list (Pw.build rfl rfl rfl rfl ?_) | refine Pw.list (Pw.ld rfl inferInstance rfl rfl rfl ?_) | refine Pw.list (Pw.sto rfl rfl inferInstance rfl rfl rfl rfl rfl inferInstance rfl ?_))
  refine Pw.list (Pw.call (rrising_ct cs zc) rfl rfl rfl (by kernel_rfl) rfl rfl (fun w h => (hv w h)) ?_)
  intro _ _
  cases hr : risB cs
  · repeat (first | (with_reducible first | refine Pw.seq ?_ | refine Pw.region ?_ | refine Pw.nil ?_ | refine Pw.then_ ?_ | refine Pw.skip ?_ | refine Pw.block ?_ | refine Pw.exit ?_ | refine Pw.inX ?_ | refine Pw.inN ?_ | refine Pw.inR ?_ | refine Pw.thenX ?_ | refine Pw.thenR ?_ | refine Pw.ret ?_) | refine Pw.list (Pw.pure rfl rfl rfl ?_) | refine Pw.inY rfl ?_ | refine Pw.list (Pw.off rfl rfl ?_) | refine Pw.condT rfl ?_ | refine Pw.condF rfl ?_ | refine Pw.list (Pw.box rfl rfl rfl rfl (fun _ => ?_)) | refine Pw.list (Pw.alloc rfl rfl rfl rfl rfl (fun _ => ?_)) | refine Pw.list (Pw.build rfl rfl rfl rfl ?_) | refine Pw.list (Pw.ld rfl inferInstance rfl rfl rfl ?_) | refine Pw.list (Pw.sto rfl rfl inferInstance rfl rfl rfl rfl rfl inferInstance rfl ?_))
    exact Pw.ret_ (x := ()) (.tmp rfl .nil) (congrArg Value.bool (formB_no (by simp [hr])).symm) trivial (fun w h => by trivial)
  repeat (first | (with_reducible first | refine Pw.seq ?_ | refine Pw.region ?_ | refine Pw.nil ?_ | refine Pw.then_ ?_ | refine Pw.skip ?_ | refine Pw.block ?_ | refine Pw.exit ?_ | refine Pw.inX ?_ | refine Pw.inN ?_ | refine Pw.inR ?_ | refine Pw.thenX ?_ | refine Pw.thenR ?_ | refine Pw.ret ?_) | refine Pw.list (Pw.pure rfl rfl rfl ?_) | refine Pw.inY rfl ?_ | refine Pw.list (Pw.off rfl rfl ?_) | refine Pw.condT rfl ?_ | refine Pw.condF rfl ?_ | refine Pw.list (Pw.box rfl rfl rfl rfl (fun _ => ?_)) | refine Pw.list (Pw.alloc rfl rfl rfl rfl rfl (fun _ => ?_)) | refine Pw.list (Pw.build rfl rfl rfl rfl ?_) | refine Pw.list (Pw.ld rfl inferInstance rfl rfl rfl ?_) | refine Pw.list (Pw.sto rfl rfl inferInstance rfl rfl rfl rfl rfl inferInstance rfl ?_))
  refine Pw.loopJ (σ := Nat × Gr) (fun t => t.1 ≤ vs.length ∧ (∀ j, j < t.1 → vOk1 vs j) ∧ gOk t.2 ((stL (vs.take t.1)).map (Value.int .u64)) t.1 1) (fun t => ⟨[(1, .pointer (some ⟨g1, 0, none⟩)), (3, gv t.2 t.1), (27, .int .i64 vs.length), (28, .int .i64 t.1)], gL1 t.2 ((stL (vs.take t.1)).map (Value.int .u64)) 42, [fun W => W.heap[g1]? = some (row [.slice A vs.length c, sl cs zc] 25), VS vs (A, c)]⟩) (fun t => vs.length - t.1) (0, none) ⟨Nat.zero_le _, fun j hj => absurd hj (Nat.not_lt_zero j), rfl, rfl⟩ (Pw.enter ⟨rfl, rfl, rfl, rfl, trivial⟩ (fun w h => allCons (by first | exact fact0 (h) | exact fact0 (allTail (h)) | exact fact0 (allTail (allTail (h))) | exact fact0 (allTail (allTail (allTail (h)))) | exact fact0 (allTail (allTail (allTail (allTail (h))))) | exact fact0 (allTail (allTail (allTail (allTail (allTail (h)))))) | exact fact0 (allTail (allTail (allTail (allTail (allTail (allTail (h))))))) | exact fact0 (allTail (allTail (allTail (allTail (allTail (allTail (allTail (h)))))))) | exact fact0 (allTail (allTail (allTail (allTail (allTail (allTail (allTail (allTail (h))))))))) | exact fact0 (allTail (allTail (allTail (allTail (allTail (allTail (allTail (allTail (allTail (h))))))))))) (allCons (hv w h) allNil))) ?_
  rintro ⟨i, q⟩ ⟨hi, hj, hq⟩
  dsimp only at hi hj hq ⊢
  repeat (first | (with_reducible first | refine Pw.seq ?_ | refine Pw.region ?_ | refine Pw.nil ?_ | refine Pw.then_ ?_ | refine Pw.skip ?_ | refine Pw.block ?_ | refine Pw.exit ?_ | refine Pw.inX ?_ | refine Pw.inN ?_ | refine Pw.inR ?_ | refine Pw.thenX ?_ | refine Pw.thenR ?_ | refine Pw.ret ?_) | refine Pw.list (Pw.pure rfl rfl rfl ?_) | refine Pw.inY rfl ?_ | refine Pw.list (Pw.off rfl rfl ?_) | refine Pw.condT rfl ?_ | refine Pw.condF rfl ?_)
  refine Pw.condD rfl (fun c3 => ?_) (fun c3 => ?_)
  · have hlt : i < vs.length := by omega
    obtain ⟨v, hvi, hm⟩ := get_at hlt
    repeat (first | (with_reducible first | refine Pw.seq ?_ | refine Pw.region ?_ | refine Pw.nil ?_ | refine Pw.then_ ?_ | refine Pw.skip ?_ | refine Pw.block ?_ | refine Pw.exit ?_ | refine Pw.inX ?_ | refine Pw.inN ?_ | refine Pw.inR ?_ | refine Pw.thenX ?_ | refine Pw.thenR ?_ | refine Pw.ret ?_) | refine Pw.list (Pw.pure rfl rfl rfl ?_) | refine Pw.inY rfl ?_ | refine Pw.list (Pw.off rfl rfl ?_) | refine Pw.condT rfl ?_ | refine Pw.condF rfl ?_ | refine Pw.list (Pw.box rfl rfl rfl rfl (fun _ => ?_)) | refine Pw.list (Pw.alloc rfl rfl rfl rfl rfl (fun _ => ?_)) | refine Pw.list (Pw.build rfl rfl rfl rfl ?_) | refine Pw.list (Pw.ld rfl inferInstance rfl rfl rfl ?_) | refine Pw.list (Pw.sto rfl rfl inferInstance rfl rfl rfl rfl rfl inferInstance rfl ?_))
    refine Pw.list (Pw.index rfl rfl rfl rfl (Int.natCast_nonneg i) c3 (fun w h => (hv w h : VS vs (A, c) w).has (Int.natCast_nonneg i) c3) rfl rfl ?_)
    rintro ad rfl
    refine Pw.list (Pw.loadR v rfl inferInstance rfl (by rw [Int.toNat_natCast]; exact hvi) (by kernel_rfl) rfl rfl ?_)
    refine Pw.re (d := 35) (v' := vtV v) rfl rfl ?_
    refine Pw.list (Pw.alloc rfl rfl rfl rfl rfl (fun g5 => ?_))
    repeat (first | (with_reducible first | refine Pw.seq ?_ | refine Pw.region ?_ | refine Pw.nil ?_ | refine Pw.then_ ?_ | refine Pw.skip ?_ | refine Pw.block ?_ | refine Pw.exit ?_ | refine Pw.inX ?_ | refine Pw.inN ?_ | refine Pw.inR ?_ | refine Pw.thenX ?_ | refine Pw.thenR ?_ | refine Pw.ret ?_) | refine Pw.list (Pw.pure rfl rfl rfl ?_) | refine Pw.inY rfl ?_ | refine Pw.list (Pw.off rfl rfl ?_) | refine Pw.condT rfl ?_ | refine Pw.condF rfl ?_ | refine Pw.list (Pw.box rfl rfl rfl rfl (fun _ => ?_)) | refine Pw.list (Pw.alloc rfl rfl rfl rfl rfl (fun _ => ?_)) | refine Pw.list (Pw.build rfl rfl rfl rfl ?_) | refine Pw.list (Pw.ld rfl inferInstance rfl rfl rfl ?_) | refine Pw.list (Pw.sto rfl rfl inferInstance rfl rfl rfl rfl rfl inferInstance rfl ?_))
    refine freeHead ?_
    refine Pw.split 39 rfl (fun c4 => ?_) (fun c4 => ?_)
    · repeat (first | (with_reducible first | refine Pw.seq ?_ | refine Pw.region ?_ | refine Pw.nil ?_ | refine Pw.then_ ?_ | refine Pw.skip ?_ | refine Pw.block ?_ | refine Pw.exit ?_ | refine Pw.inX ?_ | refine Pw.inN ?_ | refine Pw.inR ?_ | refine Pw.thenX ?_ | refine Pw.thenR ?_ | refine Pw.ret ?_) | refine Pw.list (Pw.pure rfl rfl rfl ?_) | refine Pw.inY rfl ?_ | refine Pw.list (Pw.off rfl rfl ?_) | refine Pw.condT rfl ?_ | refine Pw.condF rfl ?_ | refine Pw.list (Pw.box rfl rfl rfl rfl (fun _ => ?_)) | refine Pw.list (Pw.alloc rfl rfl rfl rfl rfl (fun _ => ?_)) | refine Pw.list (Pw.build rfl rfl rfl rfl ?_) | refine Pw.list (Pw.ld rfl inferInstance rfl rfl rfl ?_) | refine Pw.list (Pw.sto rfl rfl inferInstance rfl rfl rfl rfl rfl inferInstance rfl ?_))
      exact Pw.ret_ (x := ()) (.tmp rfl .nil) (congrArg Value.bool (formB_v hlt (vOk_no hvi (by omega))).symm) trivial (fun w h => by trivial)
    repeat (first | (with_reducible first | refine Pw.seq ?_ | refine Pw.region ?_ | refine Pw.nil ?_ | refine Pw.then_ ?_ | refine Pw.skip ?_ | refine Pw.block ?_ | refine Pw.exit ?_ | refine Pw.inX ?_ | refine Pw.inN ?_ | refine Pw.inR ?_ | refine Pw.thenX ?_ | refine Pw.thenR ?_ | refine Pw.ret ?_) | refine Pw.list (Pw.pure rfl rfl rfl ?_) | refine Pw.inY rfl ?_ | refine Pw.list (Pw.off rfl rfl ?_) | refine Pw.condT rfl ?_ | refine Pw.condF rfl ?_ | refine Pw.list (Pw.box rfl rfl rfl rfl (fun _ => ?_)) | refine Pw.list (Pw.alloc rfl rfl rfl rfl rfl (fun _ => ?_)) | refine Pw.list (Pw.build rfl rfl rfl rfl ?_) | refine Pw.list (Pw.ld rfl inferInstance rfl rfl rfl ?_) | refine Pw.list (Pw.sto rfl rfl inferInstance rfl rfl rfl rfl rfl inferInstance rfl ?_))
    refine Pw.split 44 rfl (fun c5 => ?_) (fun c5 => ?_)
    · repeat (first | (with_reducible first | refine Pw.seq ?_ | refine Pw.region ?_ | refine Pw.nil ?_ | refine Pw.then_ ?_ | refine Pw.skip ?_ | refine Pw.block ?_ | refine Pw.exit ?_ | refine Pw.inX ?_ | refine Pw.inN ?_ | refine Pw.inR ?_ | refine Pw.thenX ?_ | refine Pw.thenR ?_ | refine Pw.ret ?_) | refine Pw.list (Pw.pure rfl rfl rfl ?_) | refine Pw.inY rfl ?_ | refine Pw.list (Pw.off rfl rfl ?_) | refine Pw.condT rfl ?_ | refine Pw.condF rfl ?_ | refine Pw.list (Pw.box rfl rfl rfl rfl (fun _ => ?_)) | refine Pw.list (Pw.alloc rfl rfl rfl rfl rfl (fun _ => ?_)) | refine Pw.list (Pw.build rfl rfl rfl rfl ?_) | refine Pw.list (Pw.ld rfl inferInstance rfl rfl rfl ?_) | refine Pw.list (Pw.sto rfl rfl inferInstance rfl rfl rfl rfl rfl inferInstance rfl ?_))
      exact Pw.ret_ (x := ()) (.tmp rfl .nil) (congrArg Value.bool (formB_v hlt (vOk_no hvi (by omega))).symm) trivial (fun w h => by trivial)
    repeat (first | (with_reducible first | refine Pw.seq ?_ | refine Pw.region ?_ | refine Pw.nil ?_ | refine Pw.then_ ?_ | refine Pw.skip ?_ | refine Pw.block ?_ | refine Pw.exit ?_ | refine Pw.inX ?_ | refine Pw.inN ?_ | refine Pw.inR ?_ | refine Pw.thenX ?_ | refine Pw.thenR ?_ | refine Pw.ret ?_) | refine Pw.list (Pw.pure rfl rfl rfl ?_) | refine Pw.inY rfl ?_ | refine Pw.list (Pw.off rfl rfl ?_) | refine Pw.condT rfl ?_ | refine Pw.condF rfl ?_ | refine Pw.list (Pw.box rfl rfl rfl rfl (fun _ => ?_)) | refine Pw.list (Pw.alloc rfl rfl rfl rfl rfl (fun _ => ?_)) | refine Pw.list (Pw.build rfl rfl rfl rfl ?_) | refine Pw.list (Pw.ld rfl inferInstance rfl rfl rfl ?_) | refine Pw.list (Pw.sto rfl rfl inferInstance rfl rfl rfl rfl rfl inferInstance rfl ?_))
    refine Pw.split 50 rfl (fun c6 => ?_) (fun c6 => ?_)
    · repeat (first | (with_reducible first | refine Pw.seq ?_ | refine Pw.region ?_ | refine Pw.nil ?_ | refine Pw.then_ ?_ | refine Pw.skip ?_ | refine Pw.block ?_ | refine Pw.exit ?_ | refine Pw.inX ?_ | refine Pw.inN ?_ | refine Pw.inR ?_ | refine Pw.thenX ?_ | refine Pw.thenR ?_ | refine Pw.ret ?_) | refine Pw.list (Pw.pure rfl rfl rfl ?_) | refine Pw.inY rfl ?_ | refine Pw.list (Pw.off rfl rfl ?_) | refine Pw.condT rfl ?_ | refine Pw.condF rfl ?_ | refine Pw.list (Pw.box rfl rfl rfl rfl (fun _ => ?_)) | refine Pw.list (Pw.alloc rfl rfl rfl rfl rfl (fun _ => ?_)) | refine Pw.list (Pw.build rfl rfl rfl rfl ?_) | refine Pw.list (Pw.ld rfl inferInstance rfl rfl rfl ?_) | refine Pw.list (Pw.sto rfl rfl inferInstance rfl rfl rfl rfl rfl inferInstance rfl ?_))
      exact Pw.ret_ (x := ()) (.tmp rfl .nil) (congrArg Value.bool (formB_v hlt (vOk_no hvi (by omega))).symm) trivial (fun w h => by trivial)
    repeat (first | (with_reducible first | refine Pw.seq ?_ | refine Pw.region ?_ | refine Pw.nil ?_ | refine Pw.then_ ?_ | refine Pw.skip ?_ | refine Pw.block ?_ | refine Pw.exit ?_ | refine Pw.inX ?_ | refine Pw.inN ?_ | refine Pw.inR ?_ | refine Pw.thenX ?_ | refine Pw.thenR ?_ | refine Pw.ret ?_) | refine Pw.list (Pw.pure rfl rfl rfl ?_) | refine Pw.inY rfl ?_ | refine Pw.list (Pw.off rfl rfl ?_) | refine Pw.condT rfl ?_ | refine Pw.condF rfl ?_ | refine Pw.list (Pw.box rfl rfl rfl rfl (fun _ => ?_)) | refine Pw.list (Pw.alloc rfl rfl rfl rfl rfl (fun _ => ?_)) | refine Pw.list (Pw.build rfl rfl rfl rfl ?_) | refine Pw.list (Pw.ld rfl inferInstance rfl rfl rfl ?_) | refine Pw.list (Pw.sto rfl rfl inferInstance rfl rfl rfl rfl rfl inferInstance rfl ?_))
    refine Pw.list (Pw.call (rrising_ct v.pk v.z) rfl rfl rfl (by kernel_rfl) rfl rfl (fun w h => (hv w h : heldV v w)) ?_)
    intro _ _
    cases hr2 : risB v.pk
    · repeat (first | (with_reducible first | refine Pw.seq ?_ | refine Pw.region ?_ | refine Pw.nil ?_ | refine Pw.then_ ?_ | refine Pw.skip ?_ | refine Pw.block ?_ | refine Pw.exit ?_ | refine Pw.inX ?_ | refine Pw.inN ?_ | refine Pw.inR ?_ | refine Pw.thenX ?_ | refine Pw.thenR ?_ | refine Pw.ret ?_) | refine Pw.list (Pw.pure rfl rfl rfl ?_) | refine Pw.inY rfl ?_ | refine Pw.list (Pw.off rfl rfl ?_) | refine Pw.condT rfl ?_ | refine Pw.condF rfl ?_ | refine Pw.list (Pw.box rfl rfl rfl rfl (fun _ => ?_)) | refine Pw.list (Pw.alloc rfl rfl rfl rfl rfl (fun _ => ?_)) | refine Pw.list (Pw.build rfl rfl rfl rfl ?_) | refine Pw.list (Pw.ld rfl inferInstance rfl rfl rfl ?_) | refine Pw.list (Pw.sto rfl rfl inferInstance rfl rfl rfl rfl rfl inferInstance rfl ?_))
      exact Pw.ret_ (x := ()) (.tmp rfl .nil) (congrArg Value.bool (formB_v hlt (vOk_no hvi (by simp [hr2]))).symm) trivial (fun w h => by trivial)
    repeat (first | (with_reducible first | refine Pw.seq ?_ | refine Pw.region ?_ | refine Pw.nil ?_ | refine Pw.then_ ?_ | refine Pw.skip ?_ | refine Pw.block ?_ | refine Pw.exit ?_ | refine Pw.inX ?_ | refine Pw.inN ?_ | refine Pw.inR ?_ | refine Pw.thenX ?_ | refine Pw.thenR ?_ | refine Pw.ret ?_) | refine Pw.list (Pw.pure rfl rfl rfl ?_) | refine Pw.inY rfl ?_ | refine Pw.list (Pw.off rfl rfl ?_) | refine Pw.condT rfl ?_ | refine Pw.condF rfl ?_ | refine Pw.list (Pw.box rfl rfl rfl rfl (fun _ => ?_)) | refine Pw.list (Pw.alloc rfl rfl rfl rfl rfl (fun _ => ?_)) | refine Pw.list (Pw.build rfl rfl rfl rfl ?_) | refine Pw.list (Pw.ld rfl inferInstance rfl rfl rfl ?_) | refine Pw.list (Pw.sto rfl rfl inferInstance rfl rfl rfl rfl rfl inferInstance rfl ?_))
    refine Pw.loopJ (σ := Nat) (fun k => k ≤ i ∧ ¬ v.id ∈ idsOf (vs.take k)) (fun k => ⟨[(1, .pointer (some ⟨g1, 0, none⟩)), (3, gv q i), (5, .pointer (some ⟨g5, 0, none⟩)), (27, .int .i64 vs.length), (28, .int .i64 i), (56, .int .i64 i), (57, .int .i64 k)], gL1 q ((stL (vs.take i)).map (Value.int .u64)) 42, [fun W => W.heap[g1]? = some (row [.slice (some ad) vs.length c, sl cs zc] 25), VS vs (some ad, c), fun W => W.heap[g5]? = some (row [.int .i64 v.id, .int .u64 v.st, sl v.pk v.z] 44)]⟩) (fun k => i - k) 0 ⟨Nat.zero_le _, by simp [idsOf]⟩ (Pw.enter ⟨rfl, rfl, rfl, rfl, rfl, rfl, rfl, trivial⟩ (fun w h => allCons (by first | exact fact0 (h) | exact fact0 (allTail (h)) | exact fact0 (allTail (allTail (h))) | exact fact0 (allTail (allTail (allTail (h)))) | exact fact0 (allTail (allTail (allTail (allTail (h))))) | exact fact0 (allTail (allTail (allTail (allTail (allTail (h)))))) | exact fact0 (allTail (allTail (allTail (allTail (allTail (allTail (h))))))) | exact fact0 (allTail (allTail (allTail (allTail (allTail (allTail (allTail (h)))))))) | exact fact0 (allTail (allTail (allTail (allTail (allTail (allTail (allTail (allTail (h))))))))) | exact fact0 (allTail (allTail (allTail (allTail (allTail (allTail (allTail (allTail (allTail (h))))))))))) (allCons (hv w h) (allCons (by first | exact fact0 (h) | exact fact0 (allTail (h)) | exact fact0 (allTail (allTail (h))) | exact fact0 (allTail (allTail (allTail (h)))) | exact fact0 (allTail (allTail (allTail (allTail (h))))) | exact fact0 (allTail (allTail (allTail (allTail (allTail (h)))))) | exact fact0 (allTail (allTail (allTail (allTail (allTail (allTail (h))))))) | exact fact0 (allTail (allTail (allTail (allTail (allTail (allTail (allTail (h)))))))) | exact fact0 (allTail (allTail (allTail (allTail (allTail (allTail (allTail (allTail (h))))))))) | exact fact0 (allTail (allTail (allTail (allTail (allTail (allTail (allTail (allTail (allTail (h))))))))))) allNil)))) ?_
    rintro k ⟨hk, hnk⟩
    dsimp only at hk hnk ⊢
    repeat (first | (with_reducible first | refine Pw.seq ?_ | refine Pw.region ?_ | refine Pw.nil ?_ | refine Pw.then_ ?_ | refine Pw.skip ?_ | refine Pw.block ?_ | refine Pw.exit ?_ | refine Pw.inX ?_ | refine Pw.inN ?_ | refine Pw.inR ?_ | refine Pw.thenX ?_ | refine Pw.thenR ?_ | refine Pw.ret ?_) | refine Pw.list (Pw.pure rfl rfl rfl ?_) | refine Pw.inY rfl ?_ | refine Pw.list (Pw.off rfl rfl ?_) | refine Pw.condT rfl ?_ | refine Pw.condF rfl ?_)
    refine Pw.condD rfl (fun c7 => ?_) (fun c7 => ?_)
    · have hk0 : (0 : Int) ≤ (k : Int) := Int.natCast_nonneg k
      have hk1 : (k : Int) < ((vs.length : Nat) : Int) := by omega
      obtain ⟨u, hu, _⟩ := get_at (show k < vs.length by omega)
      have e1 := idsOf_snoc hu
      repeat (first | (with_reducible first | refine Pw.seq ?_ | refine Pw.region ?_ | refine Pw.nil ?_ | refine Pw.then_ ?_ | refine Pw.skip ?_ | refine Pw.block ?_ | refine Pw.exit ?_ | refine Pw.inX ?_ | refine Pw.inN ?_ | refine Pw.inR ?_ | refine Pw.thenX ?_ | refine Pw.thenR ?_ | refine Pw.ret ?_) | refine Pw.list (Pw.pure rfl rfl rfl ?_) | refine Pw.inY rfl ?_ | refine Pw.list (Pw.off rfl rfl ?_) | refine Pw.condT rfl ?_ | refine Pw.condF rfl ?_ | refine Pw.list (Pw.box rfl rfl rfl rfl (fun _ => ?_)) | refine Pw.list (Pw.alloc rfl rfl rfl rfl rfl (fun _ => ?_)) | refine Pw.list (Pw.build rfl rfl rfl rfl ?_) | refine Pw.list (Pw.ld rfl inferInstance rfl rfl rfl ?_) | refine Pw.list (Pw.sto rfl rfl inferInstance rfl rfl rfl rfl rfl inferInstance rfl ?_))
      refine Pw.drawnG mixed rfl rfl ?_
      refine Pw.takeP 0 (nb 9 1) rfl rfl rfl rfl (by kernel_rfl) np sf ?_
      refine Pw.takeF 1 (nb 9 3) rfl rfl inferInstance rfl rfl rfl (by kernel_rfl) np sf ?_
      refine Pw.takeP 2 (nb 9 7) rfl rfl rfl rfl (by kernel_rfl) np sf ?_
      refine Pw.takeIx 3 (nb 9 15) rfl rfl rfl rfl rfl (by first | assumption | omega) (by first | assumption | omega) rfl rfl (by kernel_rfl) np sf ?_
      refine Pw.takeFS 4 (nb 9 31) rfl rfl rfl rfl rfl rfl rfl rfl (by kernel_rfl) np sf ?_
      refine Pw.takeLF u 5 (nb 9 63) rfl rfl inferInstance rfl (by first | assumption | (rw [Int.toNat_natCast]; assumption)) rfl rfl rfl rfl (by kernel_rfl) np sf ?_
      refine Pw.takeP 6 (nb 9 127) rfl rfl rfl rfl (by kernel_rfl) np sf ?_
      refine Pw.takeF 7 (nb 9 255) rfl rfl inferInstance rfl rfl rfl (by kernel_rfl) np sf ?_
      refine Pw.takeP 8 (nb 9 511) rfl rfl rfl rfl (by kernel_rfl) np sf ?_
      refine Pw.done (by kernel_rfl) ?_
      repeat (first | (with_reducible first | refine Pw.seq ?_ | refine Pw.region ?_ | refine Pw.nil ?_ | refine Pw.then_ ?_ | refine Pw.skip ?_ | refine Pw.block ?_ | refine Pw.exit ?_ | refine Pw.inX ?_ | refine Pw.inN ?_ | refine Pw.inR ?_ | refine Pw.thenX ?_ | refine Pw.thenR ?_ | refine Pw.ret ?_) | refine Pw.list (Pw.pure rfl rfl rfl ?_) | refine Pw.inY rfl ?_ | refine Pw.list (Pw.off rfl rfl ?_) | refine Pw.condT rfl ?_ | refine Pw.condF rfl ?_ | refine Pw.list (Pw.box rfl rfl rfl rfl (fun _ => ?_)) | refine Pw.list (Pw.alloc rfl rfl rfl rfl rfl (fun _ => ?_)) | refine Pw.list (Pw.build rfl rfl rfl rfl ?_) | refine Pw.list (Pw.ld rfl inferInstance rfl rfl rfl ?_) | refine Pw.list (Pw.sto rfl rfl inferInstance rfl rfl rfl rfl rfl inferInstance rfl ?_))
      refine Pw.condD rfl (fun c8 => ?_) (fun c8 => ?_)
      · repeat (first | (with_reducible first | refine Pw.seq ?_ | refine Pw.region ?_ | refine Pw.nil ?_ | refine Pw.then_ ?_ | refine Pw.skip ?_ | refine Pw.block ?_ | refine Pw.exit ?_ | refine Pw.inX ?_ | refine Pw.inN ?_ | refine Pw.inR ?_ | refine Pw.thenX ?_ | refine Pw.thenR ?_ | refine Pw.ret ?_) | refine Pw.list (Pw.pure rfl rfl rfl ?_) | refine Pw.inY rfl ?_ | refine Pw.list (Pw.off rfl rfl ?_) | refine Pw.condT rfl ?_ | refine Pw.condF rfl ?_ | refine Pw.list (Pw.box rfl rfl rfl rfl (fun _ => ?_)) | refine Pw.list (Pw.alloc rfl rfl rfl rfl rfl (fun _ => ?_)) | refine Pw.list (Pw.build rfl rfl rfl rfl ?_) | refine Pw.list (Pw.ld rfl inferInstance rfl rfl rfl ?_) | refine Pw.list (Pw.sto rfl rfl inferInstance rfl rfl rfl rfl rfl inferInstance rfl ?_))
        have hin : v.id ∈ idsOf (vs.take i) := by
          rw [show vs.take i = vs.take (k + 1) ++ (vs.take i).drop (k + 1) by
            conv => lhs; rw [← List.take_append_drop (k + 1) (vs.take i)]
            rw [List.take_take, Nat.min_eq_left (by omega)]]
          unfold idsOf at e1 ⊢
          rw [List.map_append, e1, ← c8]
          simp
        exact Pw.ret_ (x := ()) (.tmp rfl .nil) (congrArg Value.bool (formB_v hlt (vOk_no hvi (by simp [hin]))).symm) trivial (fun w h => by trivial)
      repeat (first | (with_reducible first | refine Pw.seq ?_ | refine Pw.region ?_ | refine Pw.nil ?_ | refine Pw.then_ ?_ | refine Pw.skip ?_ | refine Pw.block ?_ | refine Pw.exit ?_ | refine Pw.inX ?_ | refine Pw.inN ?_ | refine Pw.inR ?_ | refine Pw.thenX ?_ | refine Pw.thenR ?_ | refine Pw.ret ?_) | refine Pw.list (Pw.pure rfl rfl rfl ?_) | refine Pw.inY rfl ?_ | refine Pw.list (Pw.off rfl rfl ?_) | refine Pw.condT rfl ?_ | refine Pw.condF rfl ?_ | refine Pw.list (Pw.box rfl rfl rfl rfl (fun _ => ?_)) | refine Pw.list (Pw.alloc rfl rfl rfl rfl rfl (fun _ => ?_)) | refine Pw.list (Pw.build rfl rfl rfl rfl ?_) | refine Pw.list (Pw.ld rfl inferInstance rfl rfl rfl ?_) | refine Pw.list (Pw.sto rfl rfl inferInstance rfl rfl rfl rfl rfl inferInstance rfl ?_))
      refine Pw.re (d := 57) (v' := .int .i64 ((k + 1 : Nat) : Int)) rfl (congrArg (Value.int .i64) (i64s (by omega) htop)) ?_
      exact Pw.again (k + 1) ⟨by omega, by rw [e1, List.mem_append, List.mem_singleton]; exact fun h => h.elim hnk (fun e => c8 e.symm)⟩ (by show i - (k + 1) < i - k; omega) ⟨rfl, rfl, rfl, rfl, rfl, rfl, rfl, trivial⟩ rfl (fun w h => h)
    · obtain rfl : k = i := by omega
      repeat (first | (with_reducible first | refine Pw.seq ?_ | refine Pw.region ?_ | refine Pw.nil ?_ | refine Pw.then_ ?_ | refine Pw.skip ?_ | refine Pw.block ?_ | refine Pw.exit ?_ | refine Pw.inX ?_ | refine Pw.inN ?_ | refine Pw.inR ?_ | refine Pw.thenX ?_ | refine Pw.thenR ?_ | refine Pw.ret ?_) | refine Pw.list (Pw.pure rfl rfl rfl ?_) | refine Pw.inY rfl ?_ | refine Pw.list (Pw.off rfl rfl ?_) | refine Pw.condT rfl ?_ | refine Pw.condF rfl ?_ | refine Pw.list (Pw.box rfl rfl rfl rfl (fun _ => ?_)) | refine Pw.list (Pw.alloc rfl rfl rfl rfl rfl (fun _ => ?_)) | refine Pw.list (Pw.build rfl rfl rfl rfl ?_) | refine Pw.list (Pw.ld rfl inferInstance rfl rfl rfl ?_) | refine Pw.list (Pw.sto rfl rfl inferInstance rfl rfl rfl rfl rfl inferInstance rfl ?_))
      refine Pw.list (Pw.lit1 rfl rfl rfl rfl rfl rfl rfl rfl rfl (fun g2 => ?_))
      refine freeHead ?_
      refine Pw.list (Pw.push (s := q) (news := [.int .u64 v.st]) rfl rfl rfl rfl rfl rfl rfl hq rfl (fun u hu => by rw [List.mem_singleton.1 hu]; rfl) (fun w hs j u hu => by
        have h1 : w.heap[g2]? = some (row [.int .u64 v.st] 42) := fact0 hs.all
        rw [add_none, cell_of_blk h1]
        simpa using hu) (by omega) (by simp only [maxLen]; omega) (by show (k + 1) * 8 ≤ _; omega) rfl rfl (fun q' hq' => ?_))
      repeat (first | (with_reducible first | refine Pw.seq ?_ | refine Pw.region ?_ | refine Pw.nil ?_ | refine Pw.then_ ?_ | refine Pw.skip ?_ | refine Pw.block ?_ | refine Pw.exit ?_ | refine Pw.inX ?_ | refine Pw.inN ?_ | refine Pw.inR ?_ | refine Pw.thenX ?_ | refine Pw.thenR ?_ | refine Pw.ret ?_) | refine Pw.list (Pw.pure rfl rfl rfl ?_) | refine Pw.inY rfl ?_ | refine Pw.list (Pw.off rfl rfl ?_) | refine Pw.condT rfl ?_ | refine Pw.condF rfl ?_ | refine Pw.list (Pw.box rfl rfl rfl rfl (fun _ => ?_)) | refine Pw.list (Pw.alloc rfl rfl rfl rfl rfl (fun _ => ?_)) | refine Pw.list (Pw.build rfl rfl rfl rfl ?_) | refine Pw.list (Pw.ld rfl inferInstance rfl rfl rfl ?_) | refine Pw.list (Pw.sto rfl rfl inferInstance rfl rfl rfl rfl rfl inferInstance rfl ?_))
      refine Pw.re (d := 28) (v' := .int .i64 ((k + 1 : Nat) : Int)) rfl (congrArg (Value.int .i64) (i64s (by omega) htop)) ?_
      have e1 : (stL (vs.take k)).map (Value.int .u64) ++ [.int .u64 v.st] = (stL (vs.take (k + 1))).map (Value.int .u64) := by rw [stL_snoc hvi]; simp
      rw [e1] at hq' ⊢
      exact Pw.again (k + 1, q') ⟨by show k + 1 ≤ vs.length; omega, fun j h => by
        rcases Nat.lt_or_ge j k with h' | h'
        · exact hj j h'
        · obtain rfl : j = k := by have : j < k + 1 := h; omega
          intro u hu
          rw [hvi] at hu
          cases hu
          exact ⟨hnk, by omega, by omega, by omega, hr2⟩, hq'⟩ (by show vs.length - (k + 1) < vs.length - k; omega) ⟨rfl, rfl, rfl, rfl, trivial⟩ rfl (fun w h => allCons (by first | exact fact0 (h) | exact fact0 (allTail (h)) | exact fact0 (allTail (allTail (h))) | exact fact0 (allTail (allTail (allTail (h)))) | exact fact0 (allTail (allTail (allTail (allTail (h))))) | exact fact0 (allTail (allTail (allTail (allTail (allTail (h)))))) | exact fact0 (allTail (allTail (allTail (allTail (allTail (allTail (h))))))) | exact fact0 (allTail (allTail (allTail (allTail (allTail (allTail (allTail (h)))))))) | exact fact0 (allTail (allTail (allTail (allTail (allTail (allTail (allTail (allTail (h))))))))) | exact fact0 (allTail (allTail (allTail (allTail (allTail (allTail (allTail (allTail (allTail (h))))))))))) (allCons (hv w h) allNil))
  · obtain rfl : i = vs.length := by omega
    have hb : ∀ n ∈ stL vs, U64 n := fun n hn => by
      obtain ⟨v, hv, rfl⟩ := List.mem_map.1 hn
      exact hW v hv
    rw [List.take_length] at hq ⊢
    refine Pw.freeG hq (fun B cq e hc => ?_)
    rw [e]
    repeat (first | (with_reducible first | refine Pw.seq ?_ | refine Pw.region ?_ | refine Pw.nil ?_ | refine Pw.then_ ?_ | refine Pw.skip ?_ | refine Pw.block ?_ | refine Pw.exit ?_ | refine Pw.inX ?_ | refine Pw.inN ?_ | refine Pw.inR ?_ | refine Pw.thenX ?_ | refine Pw.thenR ?_ | refine Pw.ret ?_) | refine Pw.list (Pw.pure rfl rfl rfl ?_) | refine Pw.inY rfl ?_ | refine Pw.list (Pw.off rfl rfl ?_) | refine Pw.condT rfl ?_ | refine Pw.condF rfl ?_ | refine Pw.list (Pw.box rfl rfl rfl rfl (fun _ => ?_)) | refine Pw.list (Pw.alloc rfl rfl rfl rfl rfl (fun _ => ?_)) | refine Pw.list (Pw.build rfl rfl rfl rfl ?_) | refine Pw.list (Pw.ld rfl inferInstance rfl rfl rfl ?_) | refine Pw.list (Pw.sto rfl rfl inferInstance rfl rfl rfl rfl rfl inferInstance rfl ?_))
    have hsl : (stL vs).length = vs.length := by unfold stL; rw [List.length_map]
    refine Pw.re (d := 77) (v' := sl (stL vs) (B, cq)) rfl (by show Value.slice B vs.length cq = .slice B (stL vs).length cq; rw [hsl]) ?_
    refine Pw.list (Pw.call (rSum_ct (stL vs) (B, cq) hb) rfl rfl rfl (by kernel_rfl) rfl rfl (fun w h => ints_of_cells (by rw [hsl]; exact hc) (by rw [hsl]; simp only [maxLen]; omega) (fact0 h)) ?_)
    intro _ _
    repeat (first | (with_reducible first | refine Pw.seq ?_ | refine Pw.region ?_ | refine Pw.nil ?_ | refine Pw.then_ ?_ | refine Pw.skip ?_ | refine Pw.block ?_ | refine Pw.exit ?_ | refine Pw.inX ?_ | refine Pw.inN ?_ | refine Pw.inR ?_ | refine Pw.thenX ?_ | refine Pw.thenR ?_ | refine Pw.ret ?_) | refine Pw.list (Pw.pure rfl rfl rfl ?_) | refine Pw.inY rfl ?_ | refine Pw.list (Pw.off rfl rfl ?_) | refine Pw.condT rfl ?_ | refine Pw.condF rfl ?_ | refine Pw.list (Pw.box rfl rfl rfl rfl (fun _ => ?_)) | refine Pw.list (Pw.alloc rfl rfl rfl rfl rfl (fun _ => ?_)) | refine Pw.list (Pw.build rfl rfl rfl rfl ?_) | refine Pw.list (Pw.ld rfl inferInstance rfl rfl rfl ?_) | refine Pw.list (Pw.sto rfl rfl inferInstance rfl rfl rfl rfl rfl inferInstance rfl ?_))
    refine Pw.ret_ (x := ()) (.tmp rfl .nil) (congrArg Value.bool ?_) trivial (fun w h => by trivial)
    unfold sumM
    rw [lsum_st]
    by_cases hsum : sumSt vs ≤ 18446744073709551615
    · rw [if_pos hsum]
      exact (formB_yes (s := ⟨vs, (A, c), cs, zc⟩) (by simp only; omega) (by simp only; omega) hr (fun j h => vOk_of1 (fun v hv => (hW v hv).1) hsum h (hj j h))).symm
    · rw [if_neg hsum]
      refine Eq.symm (Bool.eq_false_iff.2 fun hF => hsum (formB_sum hF))
end Go.Proofs.Wk
/- The law GraphSupported walked. -/
namespace Go.Proofs.Wk
open Go.RowKit
set_option maxRecDepth 100000
set_option maxHeartbeats 4000000
attribute [local irreducible] Pw OpG
set_option linter.unusedVariables false
set_option linter.unusedSimpArgs false
theorem Has_ct (l : List Int) (x : Option Addr × Nat) (k : Int) : Ct Try.prog 12 #[sl l x, .int .i64 k] (I1 l x) (fun _ : Unit => .bool (decide (k ∈ l))) Tt (fun _ _ => True) := by
  obtain ⟨A, c⟩ := x
  refine Ct.start Try.func12 rfl rfl (slots_of rfl slots2) (fun D w0 => ?_)
  refine Pw.use (p := l.length ≤ maxLen) (fun w h => (fact0 h).top) (fun htop => ?_)
  have htop := top63 htop
  repeat (first | (with_reducible first | refine Pw.seq ?_ | refine Pw.region ?_ | refine Pw.nil ?_ | refine Pw.then_ ?_ | refine Pw.skip ?_ | refine Pw.block ?_ | refine Pw.exit ?_ | refine Pw.inX ?_ | refine Pw.inN ?_ | refine Pw.inR ?_ | refine Pw.thenX ?_ | refine Pw.thenR ?_ | refine Pw.ret ?_) | refine Pw.list (Pw.pure rfl rfl rfl ?_) | refine Pw.inY rfl ?_ | refine Pw.list (Pw.off rfl rfl ?_) | refine Pw.condT rfl ?_ | refine Pw.condF rfl ?_)
  refine Pw.loopJ (σ := Nat) (fun i => i ≤ l.length ∧ ∀ j, j < i → ∀ y, l[j]? = some y → decide (k = y) = false) (fun i => ⟨[(0, .slice A l.length c), (1, .int .i64 k), (7, .int .i64 l.length), (8, .int .i64 i)], [], [Ints .i64 l A c]⟩) (fun i => l.length - i) 0 ⟨Nat.zero_le _, fun j hj => absurd hj (Nat.not_lt_zero j)⟩ (Pw.enter ⟨rfl, rfl, rfl, rfl, trivial⟩ (fun _ h => h)) ?_
  rintro i ⟨hi, hj⟩
  dsimp only at hi hj ⊢
  repeat (first | (with_reducible first | refine Pw.seq ?_ | refine Pw.region ?_ | refine Pw.nil ?_ | refine Pw.then_ ?_ | refine Pw.skip ?_ | refine Pw.block ?_ | refine Pw.exit ?_ | refine Pw.inX ?_ | refine Pw.inN ?_ | refine Pw.inR ?_ | refine Pw.thenX ?_ | refine Pw.thenR ?_ | refine Pw.ret ?_) | refine Pw.list (Pw.pure rfl rfl rfl ?_) | refine Pw.inY rfl ?_ | refine Pw.list (Pw.off rfl rfl ?_) | refine Pw.condT rfl ?_ | refine Pw.condF rfl ?_)
  refine Pw.condD rfl (fun c3 => ?_) (fun c3 => ?_)
  · obtain ⟨y, hy, hm⟩ := get_at (show i < l.length by omega)
    repeat (first | (with_reducible first | refine Pw.seq ?_ | refine Pw.region ?_ | refine Pw.nil ?_ | refine Pw.then_ ?_ | refine Pw.skip ?_ | refine Pw.block ?_ | refine Pw.exit ?_ | refine Pw.inX ?_ | refine Pw.inN ?_ | refine Pw.inR ?_ | refine Pw.thenX ?_ | refine Pw.thenR ?_ | refine Pw.ret ?_) | refine Pw.list (Pw.pure rfl rfl rfl ?_) | refine Pw.inY rfl ?_ | refine Pw.list (Pw.off rfl rfl ?_) | refine Pw.condT rfl ?_ | refine Pw.condF rfl ?_)
    refine Pw.list (Pw.index rfl rfl rfl rfl (Int.natCast_nonneg i) c3 (fun w h => (fact0 h).has (Int.natCast_nonneg i) c3) rfl rfl ?_)
    rintro ad rfl
    refine Pw.list (Pw.load1 rfl rfl (fun w hs => by first | exact (fact0 hs.all).cell (by first | assumption | omega) (by first | assumption | omega) | exact (fact1 hs.all).cell (by first | assumption | omega) (by first | assumption | omega) | exact (fact2 hs.all).cell (by first | assumption | omega) (by first | assumption | omega) | exact (fact3 hs.all).cell (by first | assumption | omega) (by first | assumption | omega)) rfl rfl ?_)
    rw [get_rd hy]
    repeat (first | (with_reducible first | refine Pw.seq ?_ | refine Pw.region ?_ | refine Pw.nil ?_ | refine Pw.then_ ?_ | refine Pw.skip ?_ | refine Pw.block ?_ | refine Pw.exit ?_ | refine Pw.inX ?_ | refine Pw.inN ?_ | refine Pw.inR ?_ | refine Pw.thenX ?_ | refine Pw.thenR ?_ | refine Pw.ret ?_) | refine Pw.list (Pw.pure rfl rfl rfl ?_) | refine Pw.inY rfl ?_ | refine Pw.list (Pw.off rfl rfl ?_) | refine Pw.condT rfl ?_ | refine Pw.condF rfl ?_)
    refine Pw.condD rfl (fun c4 => ?_) (fun c4 => ?_)
    · subst c4
      repeat (first | (with_reducible first | refine Pw.seq ?_ | refine Pw.region ?_ | refine Pw.nil ?_ | refine Pw.then_ ?_ | refine Pw.skip ?_ | refine Pw.block ?_ | refine Pw.exit ?_ | refine Pw.inX ?_ | refine Pw.inN ?_ | refine Pw.inR ?_ | refine Pw.thenX ?_ | refine Pw.thenR ?_ | refine Pw.ret ?_) | refine Pw.list (Pw.pure rfl rfl rfl ?_) | refine Pw.inY rfl ?_ | refine Pw.list (Pw.off rfl rfl ?_) | refine Pw.condT rfl ?_ | refine Pw.condF rfl ?_)
      exact Pw.ret_ (x := ()) (.tmp rfl .nil) (congrArg Value.bool (decide_eq_true hm).symm) trivial (fun w h => by trivial)
    · repeat (first | (with_reducible first | refine Pw.seq ?_ | refine Pw.region ?_ | refine Pw.nil ?_ | refine Pw.then_ ?_ | refine Pw.skip ?_ | refine Pw.block ?_ | refine Pw.exit ?_ | refine Pw.inX ?_ | refine Pw.inN ?_ | refine Pw.inR ?_ | refine Pw.thenX ?_ | refine Pw.thenR ?_ | refine Pw.ret ?_) | refine Pw.list (Pw.pure rfl rfl rfl ?_) | refine Pw.inY rfl ?_ | refine Pw.list (Pw.off rfl rfl ?_) | refine Pw.condT rfl ?_ | refine Pw.condF rfl ?_)
      refine Pw.re (d := 8) (v' := .int .i64 ((i + 1 : Nat) : Int)) rfl (congrArg (Value.int .i64) (i64s (by omega) htop)) ?_
      exact Pw.again (i + 1) ⟨by omega, below_snoc hj hy (decide_eq_false (fun e => c4 e.symm))⟩ (by show l.length - (i + 1) < l.length - i; omega) ⟨rfl, rfl, rfl, rfl, trivial⟩ rfl (fun w h => h)
  · repeat (first | (with_reducible first | refine Pw.seq ?_ | refine Pw.region ?_ | refine Pw.nil ?_ | refine Pw.then_ ?_ | refine Pw.skip ?_ | refine Pw.block ?_ | refine Pw.exit ?_ | refine Pw.inX ?_ | refine Pw.inN ?_ | refine Pw.inR ?_ | refine Pw.thenX ?_ | refine Pw.thenR ?_ | refine Pw.ret ?_) | refine Pw.list (Pw.pure rfl rfl rfl ?_) | refine Pw.inY rfl ?_ | refine Pw.list (Pw.off rfl rfl ?_) | refine Pw.condT rfl ?_ | refine Pw.condF rfl ?_)
    exact Pw.ret_ (x := ()) (.tmp rfl .nil) (congrArg Value.bool (decide_eq_false (fun hm => by
      obtain ⟨j, hj'⟩ := List.getElem?_of_mem hm
      have := below_all (p := fun y => decide (k = y)) hj (by omega) j k hj'
      simp at this)).symm) trivial (fun w h => by trivial)
theorem Small_ct (s : Sn) : Ct Try.prog 8 #[snV s] (snF s) (fun r : Bool => .bool r) (fun r => r = true → s.vs.length ≤ 100 ∧ s.cs.length ≤ 100) (fun _ _ => True) := by
  obtain ⟨A, cp, hz⟩ : ∃ A cp, s.zv = (A, cp) := ⟨_, _, rfl⟩
  refine Ct.start Try.func8 rfl rfl (slots_of rfl slots1) (fun D w0 => ?_)
  refine Pw.use (p := s.vs.length ≤ maxLen) (fun w h => (hv w h : snF s w).1.top) (fun htop => ?_)
  have htop := top63 htop
  repeat (first | (with_reducible first | refine Pw.seq ?_ | refine Pw.region ?_ | refine Pw.nil ?_ | refine Pw.then_ ?_ | refine Pw.skip ?_ | refine Pw.block ?_ | refine Pw.exit ?_ | refine Pw.inX ?_ | refine Pw.inN ?_ | refine Pw.inR ?_ | refine Pw.thenX ?_ | refine Pw.thenR ?_ | refine Pw.ret ?_) | refine Pw.list (Pw.pure rfl rfl rfl ?_) | refine Pw.inY rfl ?_ | refine Pw.list (Pw.off rfl rfl ?_) | refine Pw.condT rfl ?_ | refine Pw.condF rfl ?_)
  refine Pw.list (Pw.box rfl rfl rfl rfl (fun g1 => freeHead ?_))
  repeat (first | (with_reducible first | refine Pw.seq ?_ | refine Pw.region ?_ | refine Pw.nil ?_ | refine Pw.then_ ?_ | refine Pw.skip ?_ | refine Pw.block ?_ | refine Pw.exit ?_ | refine Pw.inX ?_ | refine Pw.inN ?_ | refine Pw.inR ?_ | refine Pw.thenX ?_ | refine Pw.thenR ?_ | refine Pw.ret ?_) | refine Pw.list (Pw.pure rfl rfl rfl ?_) | refine Pw.inY rfl ?_ | refine Pw.list (Pw.off rfl rfl ?_) | refine Pw.condT rfl ?_ | refine Pw.condF rfl ?_ | refine Pw.list (Pw.box rfl rfl rfl rfl (fun _ => ?_)) | refine Pw.list (Pw.alloc rfl rfl rfl rfl rfl (fun _ => ?_)) | refine Pw.list (Pw.build rfl rfl rfl rfl ?_) | refine Pw.list (Pw.ld rfl inferInstance rfl rfl rfl ?_) | refine Pw.list (Pw.sto rfl rfl inferInstance rfl rfl rfl rfl rfl inferInstance rfl ?_))
  refine Pw.condD rfl (fun c1 => ?_) (fun c1 => ?_)
  · repeat (first | (with_reducible first | refine Pw.seq ?_ | refine Pw.region ?_ | refine Pw.nil ?_ | refine Pw.then_ ?_ | refine Pw.skip ?_ | refine Pw.block ?_ | refine Pw.exit ?_ | refine Pw.inX ?_ | refine Pw.inN ?_ | refine Pw.inR ?_ | refine Pw.thenX ?_ | refine Pw.thenR ?_ | refine Pw.ret ?_) | refine Pw.list (Pw.pure rfl rfl rfl ?_) | refine Pw.inY rfl ?_ | refine Pw.list (Pw.off rfl rfl ?_) | refine Pw.condT rfl ?_ | refine Pw.condF rfl ?_ | refine Pw.list (Pw.box rfl rfl rfl rfl (fun _ => ?_)) | refine Pw.list (Pw.alloc rfl rfl rfl rfl rfl (fun _ => ?_)) | refine Pw.list (Pw.build rfl rfl rfl rfl ?_) | refine Pw.list (Pw.ld rfl inferInstance rfl rfl rfl ?_) | refine Pw.list (Pw.sto rfl rfl inferInstance rfl rfl rfl rfl rfl inferInstance rfl ?_))
    exact Pw.ret_ (x := false) (.tmp rfl .nil) rfl (fun e => by cases e) (fun w h => by trivial)
  repeat (first | (with_reducible first | refine Pw.seq ?_ | refine Pw.region ?_ | refine Pw.nil ?_ | refine Pw.then_ ?_ | refine Pw.skip ?_ | refine Pw.block ?_ | refine Pw.exit ?_ | refine Pw.inX ?_ | refine Pw.inN ?_ | refine Pw.inR ?_ | refine Pw.thenX ?_ | refine Pw.thenR ?_ | refine Pw.ret ?_) | refine Pw.list (Pw.pure rfl rfl rfl ?_) | refine Pw.inY rfl ?_ | refine Pw.list (Pw.off rfl rfl ?_) | refine Pw.condT rfl ?_ | refine Pw.condF rfl ?_ | refine Pw.list (Pw.box rfl rfl rfl rfl (fun _ => ?_)) | refine Pw.list (Pw.alloc rfl rfl rfl rfl rfl (fun _ => ?_)) | refine Pw.list (Pw.build rfl rfl rfl rfl ?_) | refine Pw.list (Pw.ld rfl inferInstance rfl rfl rfl ?_) | refine Pw.list (Pw.sto rfl rfl inferInstance rfl rfl rfl rfl rfl inferInstance rfl ?_))
  refine Pw.loopJ (σ := Nat) (fun i => i ≤ s.vs.length ∧ i ≤ 100) (fun i => ⟨[(1, .pointer (some ⟨g1, 0, none⟩)), (10, .int .i64 s.vs.length), (11, .int .i64 i)], [], [fun W => W.heap[g1]? = some (row [.slice A s.vs.length cp, sl s.cs s.zc] 25), VS s.vs (A, cp)]⟩) (fun i => s.vs.length - i) 0 ⟨Nat.zero_le _, Nat.zero_le _⟩ (Pw.enter ⟨rfl, rfl, rfl, trivial⟩ (fun w h => allCons (by have : w.heap[g1]? = some (row [.slice s.zv.1 s.vs.length s.zv.2, sl s.cs s.zc] 25) := fact0 h; rw [hz] at this; exact this) (allCons (by have := (hv w h : snF s w).1; rw [hz] at this; exact this) allNil))) ?_
  rintro i ⟨hi, hi2⟩
  dsimp only at hi hi2 ⊢
  repeat (first | (with_reducible first | refine Pw.seq ?_ | refine Pw.region ?_ | refine Pw.nil ?_ | refine Pw.then_ ?_ | refine Pw.skip ?_ | refine Pw.block ?_ | refine Pw.exit ?_ | refine Pw.inX ?_ | refine Pw.inN ?_ | refine Pw.inR ?_ | refine Pw.thenX ?_ | refine Pw.thenR ?_ | refine Pw.ret ?_) | refine Pw.list (Pw.pure rfl rfl rfl ?_) | refine Pw.inY rfl ?_ | refine Pw.list (Pw.off rfl rfl ?_) | refine Pw.condT rfl ?_ | refine Pw.condF rfl ?_)
  refine Pw.condD rfl (fun c3 => ?_) (fun c3 => ?_)
  · obtain ⟨v, hvi, hm⟩ := get_at (show i < s.vs.length by omega)
    repeat (first | (with_reducible first | refine Pw.seq ?_ | refine Pw.region ?_ | refine Pw.nil ?_ | refine Pw.then_ ?_ | refine Pw.skip ?_ | refine Pw.block ?_ | refine Pw.exit ?_ | refine Pw.inX ?_ | refine Pw.inN ?_ | refine Pw.inR ?_ | refine Pw.thenX ?_ | refine Pw.thenR ?_ | refine Pw.ret ?_) | refine Pw.list (Pw.pure rfl rfl rfl ?_) | refine Pw.inY rfl ?_ | refine Pw.list (Pw.off rfl rfl ?_) | refine Pw.condT rfl ?_ | refine Pw.condF rfl ?_ | refine Pw.list (Pw.box rfl rfl rfl rfl (fun _ => ?_)) | refine Pw.list (Pw.alloc rfl rfl rfl rfl rfl (fun _ => ?_)) | refine Pw.list (Pw.build rfl rfl rfl rfl ?_) | refine Pw.list (Pw.ld rfl inferInstance rfl rfl rfl ?_) | refine Pw.list (Pw.sto rfl rfl inferInstance rfl rfl rfl rfl rfl inferInstance rfl ?_))
    refine Pw.split 16 rfl (fun c4 => ?_) (fun c4 => ?_)
    · repeat (first | (with_reducible first | refine Pw.seq ?_ | refine Pw.region ?_ | refine Pw.nil ?_ | refine Pw.then_ ?_ | refine Pw.skip ?_ | refine Pw.block ?_ | refine Pw.exit ?_ | refine Pw.inX ?_ | refine Pw.inN ?_ | refine Pw.inR ?_ | refine Pw.thenX ?_ | refine Pw.thenR ?_ | refine Pw.ret ?_) | refine Pw.list (Pw.pure rfl rfl rfl ?_) | refine Pw.inY rfl ?_ | refine Pw.list (Pw.off rfl rfl ?_) | refine Pw.condT rfl ?_ | refine Pw.condF rfl ?_ | refine Pw.list (Pw.box rfl rfl rfl rfl (fun _ => ?_)) | refine Pw.list (Pw.alloc rfl rfl rfl rfl rfl (fun _ => ?_)) | refine Pw.list (Pw.build rfl rfl rfl rfl ?_) | refine Pw.list (Pw.ld rfl inferInstance rfl rfl rfl ?_) | refine Pw.list (Pw.sto rfl rfl inferInstance rfl rfl rfl rfl rfl inferInstance rfl ?_))
      exact Pw.ret_ (x := false) (.tmp rfl .nil) rfl (fun e => by cases e) (fun w h => by trivial)
    repeat (first | (with_reducible first | refine Pw.seq ?_ | refine Pw.region ?_ | refine Pw.nil ?_ | refine Pw.then_ ?_ | refine Pw.skip ?_ | refine Pw.block ?_ | refine Pw.exit ?_ | refine Pw.inX ?_ | refine Pw.inN ?_ | refine Pw.inR ?_ | refine Pw.thenX ?_ | refine Pw.thenR ?_ | refine Pw.ret ?_) | refine Pw.list (Pw.pure rfl rfl rfl ?_) | refine Pw.inY rfl ?_ | refine Pw.list (Pw.off rfl rfl ?_) | refine Pw.condT rfl ?_ | refine Pw.condF rfl ?_ | refine Pw.list (Pw.box rfl rfl rfl rfl (fun _ => ?_)) | refine Pw.list (Pw.alloc rfl rfl rfl rfl rfl (fun _ => ?_)) | refine Pw.list (Pw.build rfl rfl rfl rfl ?_) | refine Pw.list (Pw.ld rfl inferInstance rfl rfl rfl ?_) | refine Pw.list (Pw.sto rfl rfl inferInstance rfl rfl rfl rfl rfl inferInstance rfl ?_))
    refine Pw.list (Pw.index rfl rfl rfl rfl (Int.natCast_nonneg i) c3 (fun w h => (fact1 h).has (Int.natCast_nonneg i) c3) rfl rfl ?_)
    rintro ad rfl
    refine Pw.list (Pw.fieldS rfl rfl rfl rfl rfl rfl rfl ?_)
    refine Pw.list (Pw.loadF v rfl inferInstance rfl (by rw [Int.toNat_natCast]; exact hvi) rfl (by kernel_rfl) rfl rfl ?_)
    repeat (first | (with_reducible first | refine Pw.seq ?_ | refine Pw.region ?_ | refine Pw.nil ?_ | refine Pw.then_ ?_ | refine Pw.skip ?_ | refine Pw.block ?_ | refine Pw.exit ?_ | refine Pw.inX ?_ | refine Pw.inN ?_ | refine Pw.inR ?_ | refine Pw.thenX ?_ | refine Pw.thenR ?_ | refine Pw.ret ?_) | refine Pw.list (Pw.pure rfl rfl rfl ?_) | refine Pw.inY rfl ?_ | refine Pw.list (Pw.off rfl rfl ?_) | refine Pw.condT rfl ?_ | refine Pw.condF rfl ?_ | refine Pw.list (Pw.box rfl rfl rfl rfl (fun _ => ?_)) | refine Pw.list (Pw.alloc rfl rfl rfl rfl rfl (fun _ => ?_)) | refine Pw.list (Pw.build rfl rfl rfl rfl ?_) | refine Pw.list (Pw.ld rfl inferInstance rfl rfl rfl ?_) | refine Pw.list (Pw.sto rfl rfl inferInstance rfl rfl rfl rfl rfl inferInstance rfl ?_))
    refine Pw.condD rfl (fun c5 => ?_) (fun c5 => ?_)
    · repeat (first | (with_reducible first | refine Pw.seq ?_ | refine Pw.region ?_ | refine Pw.nil ?_ | refine Pw.then_ ?_ | refine Pw.skip ?_ | refine Pw.block ?_ | refine Pw.exit ?_ | refine Pw.inX ?_ | refine Pw.inN ?_ | refine Pw.inR ?_ | refine Pw.thenX ?_ | refine Pw.thenR ?_ | refine Pw.ret ?_) | refine Pw.list (Pw.pure rfl rfl rfl ?_) | refine Pw.inY rfl ?_ | refine Pw.list (Pw.off rfl rfl ?_) | refine Pw.condT rfl ?_ | refine Pw.condF rfl ?_ | refine Pw.list (Pw.box rfl rfl rfl rfl (fun _ => ?_)) | refine Pw.list (Pw.alloc rfl rfl rfl rfl rfl (fun _ => ?_)) | refine Pw.list (Pw.build rfl rfl rfl rfl ?_) | refine Pw.list (Pw.ld rfl inferInstance rfl rfl rfl ?_) | refine Pw.list (Pw.sto rfl rfl inferInstance rfl rfl rfl rfl rfl inferInstance rfl ?_))
      exact Pw.ret_ (x := false) (.tmp rfl .nil) rfl (fun e => by cases e) (fun w h => by trivial)
    repeat (first | (with_reducible first | refine Pw.seq ?_ | refine Pw.region ?_ | refine Pw.nil ?_ | refine Pw.then_ ?_ | refine Pw.skip ?_ | refine Pw.block ?_ | refine Pw.exit ?_ | refine Pw.inX ?_ | refine Pw.inN ?_ | refine Pw.inR ?_ | refine Pw.thenX ?_ | refine Pw.thenR ?_ | refine Pw.ret ?_) | refine Pw.list (Pw.pure rfl rfl rfl ?_) | refine Pw.inY rfl ?_ | refine Pw.list (Pw.off rfl rfl ?_) | refine Pw.condT rfl ?_ | refine Pw.condF rfl ?_ | refine Pw.list (Pw.box rfl rfl rfl rfl (fun _ => ?_)) | refine Pw.list (Pw.alloc rfl rfl rfl rfl rfl (fun _ => ?_)) | refine Pw.list (Pw.build rfl rfl rfl rfl ?_) | refine Pw.list (Pw.ld rfl inferInstance rfl rfl rfl ?_) | refine Pw.list (Pw.sto rfl rfl inferInstance rfl rfl rfl rfl rfl inferInstance rfl ?_))
    refine Pw.re (d := 11) (v' := .int .i64 ((i + 1 : Nat) : Int)) rfl (congrArg (Value.int .i64) (i64s (by omega) htop)) ?_
    exact Pw.again (i + 1) ⟨by omega, by omega⟩ (by show s.vs.length - (i + 1) < s.vs.length - i; omega) ⟨rfl, rfl, rfl, trivial⟩ rfl (fun w h => allTail h)
  · repeat (first | (with_reducible first | refine Pw.seq ?_ | refine Pw.region ?_ | refine Pw.nil ?_ | refine Pw.then_ ?_ | refine Pw.skip ?_ | refine Pw.block ?_ | refine Pw.exit ?_ | refine Pw.inX ?_ | refine Pw.inN ?_ | refine Pw.inR ?_ | refine Pw.thenX ?_ | refine Pw.thenR ?_ | refine Pw.ret ?_) | refine Pw.list (Pw.pure rfl rfl rfl ?_) | refine Pw.inY rfl ?_ | refine Pw.list (Pw.off rfl rfl ?_) | refine Pw.condT rfl ?_ | refine Pw.condF rfl ?_)
    exact Pw.ret_ (x := true) (.tmp rfl .nil) rfl (fun _ => ⟨by omega, by omega⟩) (fun w h => by trivial)
end Go.Proofs.Wk
/- The document's snapshots: who approves whom; seats; the total. -/
namespace Go.Proofs.Wk
open Go.RowKit
set_option maxRecDepth 100000
set_option maxHeartbeats 4000000
attribute [local irreducible] Pw OpG
set_option linter.unusedVariables false
set_option linter.unusedSimpArgs false
end Go.Proofs.Wk
/- The document's snapshots: seats; the total. -/
namespace Go.Proofs.Wk
open Go.RowKit
set_option maxRecDepth 100000
set_option maxHeartbeats 4000000
attribute [local irreducible] Pw OpG
set_option linter.unusedVariables false
set_option linter.unusedSimpArgs false
theorem dTotal_ct (s : Sn) (hW : snW s) : Ct Try.prog 30 #[snV s] (snF s) (fun _ : Unit => .int .u64 (if formB s = true then sumSt s.vs else 0)) Tt (fun _ _ => True) := by
  obtain ⟨vs, ⟨A, cp⟩, cs, zc⟩ := s
  refine Ct.start Try.func30 rfl rfl (slots_of rfl slots1) (fun D w0 => Pw.facts sn2 ?_)
  repeat (first | (with_reducible first | refine Pw.seq ?_ | refine Pw.region ?_ | refine Pw.nil ?_ | refine Pw.then_ ?_ | refine Pw.skip ?_ | refine Pw.block ?_ | refine Pw.exit ?_ | refine Pw.inX ?_ | refine Pw.inN ?_ | refine Pw.inR ?_ | refine Pw.thenX ?_ | refine Pw.thenR ?_ | refine Pw.ret ?_) | refine Pw.list (Pw.pure rfl rfl rfl ?_) | refine Pw.inY rfl ?_ | refine Pw.list (Pw.off rfl rfl ?_) | refine Pw.condT rfl ?_ | refine Pw.condF rfl ?_)
  refine Pw.list (Pw.box rfl rfl rfl rfl (fun g2 => freeHead ?_))
  repeat (first | (with_reducible first | refine Pw.seq ?_ | refine Pw.region ?_ | refine Pw.nil ?_ | refine Pw.then_ ?_ | refine Pw.skip ?_ | refine Pw.block ?_ | refine Pw.exit ?_ | refine Pw.inX ?_ | refine Pw.inN ?_ | refine Pw.inR ?_ | refine Pw.thenX ?_ | refine Pw.thenR ?_ | refine Pw.ret ?_) | refine Pw.list (Pw.pure rfl rfl rfl ?_) | refine Pw.inY rfl ?_ | refine Pw.list (Pw.off rfl rfl ?_) | refine Pw.condT rfl ?_ | refine Pw.condF rfl ?_ | refine Pw.list (Pw.box rfl rfl rfl rfl (fun _ => ?_)) | refine Pw.list (Pw.alloc rfl rfl rfl rfl rfl (fun _ => ?_)) | refine Pw.list (Pw.build rfl rfl rfl rfl ?_) | refine Pw.list (Pw.ld rfl inferInstance rfl rfl rfl ?_) | refine Pw.list (Pw.sto rfl rfl inferInstance rfl rfl rfl rfl rfl inferInstance rfl ?_))
  refine Pw.list (Pw.call (dFormed_ct ⟨vs, (A, cp), cs, zc⟩ hW) rfl rfl rfl (by kernel_rfl) rfl rfl (fun w h => ⟨(hv w h), (hv w h)⟩) ?_)
  intro _ _
  cases hF : formB ⟨vs, (A, cp), cs, zc⟩
  · repeat (first | (with_reducible first | refine Pw.seq ?_ | refine Pw.region ?_ | refine Pw.nil ?_ | refine Pw.then_ ?_ | refine Pw.skip ?_ | refine Pw.block ?_ | refine Pw.exit ?_ | refine Pw.inX ?_ | refine Pw.inN ?_ | refine Pw.inR ?_ | refine Pw.thenX ?_ | refine Pw.thenR ?_ | refine Pw.ret ?_) | refine Pw.list (Pw.pure rfl rfl rfl ?_) | refine Pw.inY rfl ?_ | refine Pw.list (Pw.off rfl rfl ?_) | refine Pw.condT rfl ?_ | refine Pw.condF rfl ?_ | refine Pw.list (Pw.box rfl rfl rfl rfl (fun _ => ?_)) | refine Pw.list (Pw.alloc rfl rfl rfl rfl rfl (fun _ => ?_)) | refine Pw.list (Pw.build rfl rfl rfl rfl ?_) | refine Pw.list (Pw.ld rfl inferInstance rfl rfl rfl ?_) | refine Pw.list (Pw.sto rfl rfl inferInstance rfl rfl rfl rfl rfl inferInstance rfl ?_))
    exact Pw.ret_ (x := ()) (.tmp rfl .nil) rfl trivial (fun w h => by trivial)
  rw [if_pos rfl]
  obtain ⟨l1, l2, _, hok⟩ := formB_spec hF
  dsimp only at l1 l2 hok
  have htop : vs.length ≤ 9223372036854775807 := by omega
  repeat (first | (with_reducible first | refine Pw.seq ?_ | refine Pw.region ?_ | refine Pw.nil ?_ | refine Pw.then_ ?_ | refine Pw.skip ?_ | refine Pw.block ?_ | refine Pw.exit ?_ | refine Pw.inX ?_ | refine Pw.inN ?_ | refine Pw.inR ?_ | refine Pw.thenX ?_ | refine Pw.thenR ?_ | refine Pw.ret ?_) | refine Pw.list (Pw.pure rfl rfl rfl ?_) | refine Pw.inY rfl ?_ | refine Pw.list (Pw.off rfl rfl ?_) | refine Pw.condT rfl ?_ | refine Pw.condF rfl ?_ | refine Pw.list (Pw.box rfl rfl rfl rfl (fun _ => ?_)) | refine Pw.list (Pw.alloc rfl rfl rfl rfl rfl (fun _ => ?_)) | refine Pw.list (Pw.build rfl rfl rfl rfl ?_) | refine Pw.list (Pw.ld rfl inferInstance rfl rfl rfl ?_) | refine Pw.list (Pw.sto rfl rfl inferInstance rfl rfl rfl rfl rfl inferInstance rfl ?_))
  refine Pw.loopJ (σ := Nat) (fun i => i ≤ vs.length) (fun i => ⟨[(1, .pointer (some ⟨g2, 0, none⟩)), (3, .int .u64 (sumSt (vs.take i))), (10, .int .i64 vs.length), (11, .int .i64 i)], [], [fun W => W.heap[g2]? = some (row [.slice A vs.length cp, sl cs zc] 25), VS vs (A, cp)]⟩) (fun i => vs.length - i) 0 (Nat.zero_le _) (Pw.enter ⟨rfl, rfl, rfl, rfl, trivial⟩ (fun w h => allCons (by first | exact fact0 (h) | exact fact0 (allTail (h)) | exact fact0 (allTail (allTail (h))) | exact fact0 (allTail (allTail (allTail (h)))) | exact fact0 (allTail (allTail (allTail (allTail (h))))) | exact fact0 (allTail (allTail (allTail (allTail (allTail (h)))))) | exact fact0 (allTail (allTail (allTail (allTail (allTail (allTail (h))))))) | exact fact0 (allTail (allTail (allTail (allTail (allTail (allTail (allTail (h)))))))) | exact fact0 (allTail (allTail (allTail (allTail (allTail (allTail (allTail (allTail (h))))))))) | exact fact0 (allTail (allTail (allTail (allTail (allTail (allTail (allTail (allTail (allTail (h))))))))))) (allCons (hv w h) allNil))) ?_
  rintro i hi
  dsimp only at hi ⊢
  repeat (first | (with_reducible first | refine Pw.seq ?_ | refine Pw.region ?_ | refine Pw.nil ?_ | refine Pw.then_ ?_ | refine Pw.skip ?_ | refine Pw.block ?_ | refine Pw.exit ?_ | refine Pw.inX ?_ | refine Pw.inN ?_ | refine Pw.inR ?_ | refine Pw.thenX ?_ | refine Pw.thenR ?_ | refine Pw.ret ?_) | refine Pw.list (Pw.pure rfl rfl rfl ?_) | refine Pw.inY rfl ?_ | refine Pw.list (Pw.off rfl rfl ?_) | refine Pw.condT rfl ?_ | refine Pw.condF rfl ?_)
  refine Pw.condD rfl (fun c3 => ?_) (fun c3 => ?_)
  · obtain ⟨v, hvi, hm⟩ := get_at (show i < vs.length by omega)
    have hst := hW v hm
    have hs0 : 0 ≤ sumSt (vs.take i) := sumSt_nonneg (fun u hu => (hW u (List.mem_of_mem_take hu)).1)
    have hfit := ((vOk_iff hvi).1 (hok i (by omega))).1
    repeat (first | (with_reducible first | refine Pw.seq ?_ | refine Pw.region ?_ | refine Pw.nil ?_ | refine Pw.then_ ?_ | refine Pw.skip ?_ | refine Pw.block ?_ | refine Pw.exit ?_ | refine Pw.inX ?_ | refine Pw.inN ?_ | refine Pw.inR ?_ | refine Pw.thenX ?_ | refine Pw.thenR ?_ | refine Pw.ret ?_) | refine Pw.list (Pw.pure rfl rfl rfl ?_) | refine Pw.inY rfl ?_ | refine Pw.list (Pw.off rfl rfl ?_) | refine Pw.condT rfl ?_ | refine Pw.condF rfl ?_ | refine Pw.list (Pw.box rfl rfl rfl rfl (fun _ => ?_)) | refine Pw.list (Pw.alloc rfl rfl rfl rfl rfl (fun _ => ?_)) | refine Pw.list (Pw.build rfl rfl rfl rfl ?_) | refine Pw.list (Pw.ld rfl inferInstance rfl rfl rfl ?_) | refine Pw.list (Pw.sto rfl rfl inferInstance rfl rfl rfl rfl rfl inferInstance rfl ?_))
    refine Pw.list (Pw.index rfl rfl rfl rfl (Int.natCast_nonneg i) c3 (fun w h => (hv w h : VS vs (A, cp) w).has (Int.natCast_nonneg i) c3) rfl rfl ?_)
    rintro ad rfl
    refine Pw.list (Pw.fieldS rfl rfl rfl rfl rfl rfl rfl ?_)
    refine Pw.list (Pw.loadF v rfl inferInstance rfl (by rw [Int.toNat_natCast]; exact hvi) rfl (by kernel_rfl) rfl rfl ?_)
    repeat (first | (with_reducible first | refine Pw.seq ?_ | refine Pw.region ?_ | refine Pw.nil ?_ | refine Pw.then_ ?_ | refine Pw.skip ?_ | refine Pw.block ?_ | refine Pw.exit ?_ | refine Pw.inX ?_ | refine Pw.inN ?_ | refine Pw.inR ?_ | refine Pw.thenX ?_ | refine Pw.thenR ?_ | refine Pw.ret ?_) | refine Pw.list (Pw.pure rfl rfl rfl ?_) | refine Pw.inY rfl ?_ | refine Pw.list (Pw.off rfl rfl ?_) | refine Pw.condT rfl ?_ | refine Pw.condF rfl ?_ | refine Pw.list (Pw.box rfl rfl rfl rfl (fun _ => ?_)) | refine Pw.list (Pw.alloc rfl rfl rfl rfl rfl (fun _ => ?_)) | refine Pw.list (Pw.build rfl rfl rfl rfl ?_) | refine Pw.list (Pw.ld rfl inferInstance rfl rfl rfl ?_) | refine Pw.list (Pw.sto rfl rfl inferInstance rfl rfl rfl rfl rfl inferInstance rfl ?_))
    refine Pw.re (d := 3) (v' := .int .u64 (sumSt (vs.take (i + 1)))) rfl (congrArg (Value.int .u64) (by rw [take_snoc hvi, sumSt_snoc]; exact wu (by omega) (by omega))) ?_
    refine Pw.re (d := 11) (v' := .int .i64 ((i + 1 : Nat) : Int)) rfl (congrArg (Value.int .i64) (i64s (by omega) htop)) ?_
    exact Pw.again (i + 1) (by show i + 1 ≤ vs.length; omega) (by show vs.length - (i + 1) < vs.length - i; omega) ⟨rfl, rfl, rfl, rfl, trivial⟩ rfl (fun w h => allCons (by first | exact fact0 (h) | exact fact0 (allTail (h)) | exact fact0 (allTail (allTail (h))) | exact fact0 (allTail (allTail (allTail (h)))) | exact fact0 (allTail (allTail (allTail (allTail (h))))) | exact fact0 (allTail (allTail (allTail (allTail (allTail (h)))))) | exact fact0 (allTail (allTail (allTail (allTail (allTail (allTail (h))))))) | exact fact0 (allTail (allTail (allTail (allTail (allTail (allTail (allTail (h)))))))) | exact fact0 (allTail (allTail (allTail (allTail (allTail (allTail (allTail (allTail (h))))))))) | exact fact0 (allTail (allTail (allTail (allTail (allTail (allTail (allTail (allTail (allTail (h))))))))))) (allCons (hv w h) allNil))
  · obtain rfl : i = vs.length := by omega
    rw [List.take_length]
    repeat (first | (with_reducible first | refine Pw.seq ?_ | refine Pw.region ?_ | refine Pw.nil ?_ | refine Pw.then_ ?_ | refine Pw.skip ?_ | refine Pw.block ?_ | refine Pw.exit ?_ | refine Pw.inX ?_ | refine Pw.inN ?_ | refine Pw.inR ?_ | refine Pw.thenX ?_ | refine Pw.thenR ?_ | refine Pw.ret ?_) | refine Pw.list (Pw.pure rfl rfl rfl ?_) | refine Pw.inY rfl ?_ | refine Pw.list (Pw.off rfl rfl ?_) | refine Pw.condT rfl ?_ | refine Pw.condF rfl ?_ | refine Pw.list (Pw.box rfl rfl rfl rfl (fun _ => ?_)) | refine Pw.list (Pw.alloc rfl rfl rfl rfl rfl (fun _ => ?_)) | refine Pw.list (Pw.build rfl rfl rfl rfl ?_) | refine Pw.list (Pw.ld rfl inferInstance rfl rfl rfl ?_) | refine Pw.list (Pw.sto rfl rfl inferInstance rfl rfl rfl rfl rfl inferInstance rfl ?_))
    exact Pw.ret_ (x := ()) (.tmp rfl .nil) rfl trivial (fun w h => by trivial)
end Go.Proofs.Wk
/- Elections: awake of chapter eleven; the law PhragmenSupports. -/
namespace Go.Proofs.Wk
open Go.RowKit
set_option maxRecDepth 100000
set_option maxHeartbeats 4000000
attribute [local irreducible] Pw OpG
set_option linter.unusedVariables false
set_option linter.unusedSimpArgs false
theorem eawake_ct : Ct Try.prog 7 #[] (fun _ => True) (fun _ : Unit => .bool true) Tt (fun _ _ => True) := by
  refine Ct.start Try.func7 rfl rfl (slots_of rfl slots0) (fun D w0 => ?_)
  repeat (first | (with_reducible first | refine Pw.seq ?_ | refine Pw.region ?_ | refine Pw.nil ?_ | refine Pw.then_ ?_ | refine Pw.skip ?_ | refine Pw.block ?_ | refine Pw.exit ?_ | refine Pw.inX ?_ | refine Pw.inN ?_ | refine Pw.inR ?_ | refine Pw.thenX ?_ | refine Pw.thenR ?_ | refine Pw.ret ?_) | refine Pw.list (Pw.pure rfl rfl rfl ?_) | refine Pw.inY rfl ?_ | refine Pw.list (Pw.off rfl rfl ?_) | refine Pw.condT rfl ?_ | refine Pw.condF rfl ?_ | refine Pw.list (Pw.box rfl rfl rfl rfl (fun _ => ?_)) | refine Pw.list (Pw.alloc rfl rfl rfl rfl rfl (fun _ => ?_)) | refine Pw.list (Pw.build rfl rfl rfl rfl ?_) | refine Pw.list (Pw.ld rfl inferInstance rfl rfl rfl ?_) | refine Pw.list (Pw.sto rfl rfl inferInstance rfl rfl rfl rfl rfl inferInstance rfl ?_))
  refine Pw.list (Pw.lit1 rfl rfl rfl rfl rfl rfl rfl rfl rfl (fun g5 => freeHead ?_))
  repeat (first | (with_reducible first | refine Pw.seq ?_ | refine Pw.region ?_ | refine Pw.nil ?_ | refine Pw.then_ ?_ | refine Pw.skip ?_ | refine Pw.block ?_ | refine Pw.exit ?_ | refine Pw.inX ?_ | refine Pw.inN ?_ | refine Pw.inR ?_ | refine Pw.thenX ?_ | refine Pw.thenR ?_ | refine Pw.ret ?_) | refine Pw.list (Pw.pure rfl rfl rfl ?_) | refine Pw.inY rfl ?_ | refine Pw.list (Pw.off rfl rfl ?_) | refine Pw.condT rfl ?_ | refine Pw.condF rfl ?_ | refine Pw.list (Pw.box rfl rfl rfl rfl (fun _ => ?_)) | refine Pw.list (Pw.alloc rfl rfl rfl rfl rfl (fun _ => ?_)) | refine Pw.list (Pw.build rfl rfl rfl rfl ?_) | refine Pw.list (Pw.ld rfl inferInstance rfl rfl rfl ?_) | refine Pw.list (Pw.sto rfl rfl inferInstance rfl rfl rfl rfl rfl inferInstance rfl ?_))
  refine Pw.list (Pw.lit13 rfl rfl rfl rfl rfl rfl rfl rfl rfl (fun g7 => freeHead ?_))
  repeat (first | (with_reducible first | refine Pw.seq ?_ | refine Pw.region ?_ | refine Pw.nil ?_ | refine Pw.then_ ?_ | refine Pw.skip ?_ | refine Pw.block ?_ | refine Pw.exit ?_ | refine Pw.inX ?_ | refine Pw.inN ?_ | refine Pw.inR ?_ | refine Pw.thenX ?_ | refine Pw.thenR ?_ | refine Pw.ret ?_) | refine Pw.list (Pw.pure rfl rfl rfl ?_) | refine Pw.inY rfl ?_ | refine Pw.list (Pw.off rfl rfl ?_) | refine Pw.condT rfl ?_ | refine Pw.condF rfl ?_ | refine Pw.list (Pw.box rfl rfl rfl rfl (fun _ => ?_)) | refine Pw.list (Pw.alloc rfl rfl rfl rfl rfl (fun _ => ?_)) | refine Pw.list (Pw.build rfl rfl rfl rfl ?_) | refine Pw.list (Pw.ld rfl inferInstance rfl rfl rfl ?_) | refine Pw.list (Pw.sto rfl rfl inferInstance rfl rfl rfl rfl rfl inferInstance rfl ?_))
  refine Pw.list (Pw.lit1 rfl rfl rfl rfl rfl rfl rfl rfl rfl (fun g8 => freeHead ?_))
  repeat (first | (with_reducible first | refine Pw.seq ?_ | refine Pw.region ?_ | refine Pw.nil ?_ | refine Pw.then_ ?_ | refine Pw.skip ?_ | refine Pw.block ?_ | refine Pw.exit ?_ | refine Pw.inX ?_ | refine Pw.inN ?_ | refine Pw.inR ?_ | refine Pw.thenX ?_ | refine Pw.thenR ?_ | refine Pw.ret ?_) | refine Pw.list (Pw.pure rfl rfl rfl ?_) | refine Pw.inY rfl ?_ | refine Pw.list (Pw.off rfl rfl ?_) | refine Pw.condT rfl ?_ | refine Pw.condF rfl ?_ | refine Pw.list (Pw.box rfl rfl rfl rfl (fun _ => ?_)) | refine Pw.list (Pw.alloc rfl rfl rfl rfl rfl (fun _ => ?_)) | refine Pw.list (Pw.build rfl rfl rfl rfl ?_) | refine Pw.list (Pw.ld rfl inferInstance rfl rfl rfl ?_) | refine Pw.list (Pw.sto rfl rfl inferInstance rfl rfl rfl rfl rfl inferInstance rfl ?_))
  refine Pw.list (Pw.call (Elect1_ct (some ⟨g5, 0, none⟩, 1) (some ⟨g7, 0, none⟩, 1) (some ⟨g8, 0, none⟩, 1)) rfl rfl rfl (by kernel_rfl) rfl rfl (fun w h => ⟨rows_of_row (l := [(⟨1, 5, [2], (some ⟨g5, 0, none⟩, 1)⟩ : Vtr)]) (ex := []) (by rw [List.append_nil]; exact fact1 h) (fun y hy => by rw [List.mem_singleton.1 hy]; rfl) (fun y hy => by
    rw [List.mem_singleton.1 hy]
    exact ints_of_row' (l := [2]) (fact2 h) (by simp) (by simp [maxLen])) (by simp) (by simp [maxLen]) (by omega), ints_of_row' (l := [2]) (fact0 h) (by simp) (by simp [maxLen])⟩) ?_)
  rintro ⟨gs, caps, v⟩ _
  repeat (first | (with_reducible first | refine Pw.seq ?_ | refine Pw.region ?_ | refine Pw.nil ?_ | refine Pw.then_ ?_ | refine Pw.skip ?_ | refine Pw.block ?_ | refine Pw.exit ?_ | refine Pw.inX ?_ | refine Pw.inN ?_ | refine Pw.inR ?_ | refine Pw.thenX ?_ | refine Pw.thenR ?_ | refine Pw.ret ?_) | refine Pw.list (Pw.pure rfl rfl rfl ?_) | refine Pw.inY rfl ?_ | refine Pw.list (Pw.off rfl rfl ?_) | refine Pw.condT rfl ?_ | refine Pw.condF rfl ?_ | refine Pw.list (Pw.box rfl rfl rfl rfl (fun _ => ?_)) | refine Pw.list (Pw.alloc rfl rfl rfl rfl rfl (fun _ => ?_)) | refine Pw.list (Pw.build rfl rfl rfl rfl ?_) | refine Pw.list (Pw.ld rfl inferInstance rfl rfl rfl ?_) | refine Pw.list (Pw.sto rfl rfl inferInstance rfl rfl rfl rfl rfl inferInstance rfl ?_))
  refine Pw.list (Pw.indexS rfl rfl rfl rfl (Int.le_refl 0) (by show (0 : Int) < 1; omega) rfl rfl ?_)
  refine Pw.list (Pw.fieldS rfl rfl rfl rfl rfl rfl rfl ?_)
  refine Pw.list (Pw.load1 (v := .int .i64 2) rfl rfl (fun w hs => fact0 hs.all) rfl rfl ?_)
  repeat (first | (with_reducible first | refine Pw.seq ?_ | refine Pw.region ?_ | refine Pw.nil ?_ | refine Pw.then_ ?_ | refine Pw.skip ?_ | refine Pw.block ?_ | refine Pw.exit ?_ | refine Pw.inX ?_ | refine Pw.inN ?_ | refine Pw.inR ?_ | refine Pw.thenX ?_ | refine Pw.thenR ?_ | refine Pw.ret ?_) | refine Pw.list (Pw.pure rfl rfl rfl ?_) | refine Pw.inY rfl ?_ | refine Pw.list (Pw.off rfl rfl ?_) | refine Pw.condT rfl ?_ | refine Pw.condF rfl ?_ | refine Pw.list (Pw.box rfl rfl rfl rfl (fun _ => ?_)) | refine Pw.list (Pw.alloc rfl rfl rfl rfl rfl (fun _ => ?_)) | refine Pw.list (Pw.build rfl rfl rfl rfl ?_) | refine Pw.list (Pw.ld rfl inferInstance rfl rfl rfl ?_) | refine Pw.list (Pw.sto rfl rfl inferInstance rfl rfl rfl rfl rfl inferInstance rfl ?_))
  exact Pw.ret_ (x := ()) (.tmp rfl .nil) rfl trivial (fun w h => by trivial)
end Go.Proofs.Wk
/- Elections: psephoslaw11's Shares and Same walked. -/
namespace Go.Proofs.Wk
open Go.RowKit
set_option maxRecDepth 100000
set_option maxHeartbeats 4000000
attribute [local irreducible] Pw OpG
set_option linter.unusedVariables false
set_option linter.unusedSimpArgs false
end Go.Proofs.Wk
/- The law PhragmenIdle walked. -/
namespace Go.Proofs.Wk
open Go.RowKit
set_option maxRecDepth 100000
set_option maxHeartbeats 8000000
attribute [local irreducible] Pw OpG
set_option linter.unusedVariables false
set_option linter.unusedSimpArgs false
def cellsV (l : List Vtr) : List Value := l.flatMap encV
theorem encV_one (s : Vtr) : ∀ u ∈ encV s, u.oneCell' = true := by
  intro u hu
  simp only [encV, List.mem_cons, List.not_mem_nil, or_false] at hu
  rcases hu with rfl | rfl | rfl <;> rfl
theorem cellsV_snoc (l : List Vtr) (r : Vtr) : cellsV (l ++ [r]) = cellsV l ++ encV r := by unfold cellsV; simp
theorem run_se {vs : List Vtr} {cs : List Int} : ∀ (k : Nat) (S : Est), (runE vs cs k S).se.length ≤ S.se.length + k
  | 0, S => Nat.le_refl _
  | k + 1, S => by
    unfold runE
    cases hr : rnd vs cs S with
    | none => show S.se.length ≤ _; omega
    | some S' =>
      have h1 := run_se (vs := vs) (cs := cs) k S'
      have h2 : S'.se.length = S.se.length + 1 := by
        unfold rnd at hr
        cases hb : best vs S cs with
        | none => rw [hb] at hr; cases hr
        | some b =>
          rw [hb] at hr
          rw [← Option.some.inj hr]
          show (S.se ++ [_]).length = _
          simp
      show (runE vs cs k S').se.length ≤ _
      omega
theorem elect_se (vs : List Vtr) (cs : List Int) (k : Nat) : (electE vs cs k).se.length ≤ k := by
  have := run_se (vs := vs) (cs := cs) k (begE vs)
  have h : (begE vs).se.length = 0 := rfl
  unfold electE
  omega
theorem os_len {s : Sn} {k : Int} {y : Ea} (h : eaOk s k y) (h8 : k ≤ 8) : y.os.length ≤ 8 := by
  have h1 := congrArg List.length h.1
  rw [List.length_map, List.length_map] at h1
  have := elect_se s.vs s.cs k.toNat
  omega
end Go.Proofs.Wk
/- Elections: all stakes so many times as great (plain). -/
namespace Go.Proofs.Wk
open Go.RowKit
set_option linter.unusedVariables false
set_option linter.unusedSimpArgs false
/-- How a state scales: K is m to the rounds' number. -/
structure ScR (m K : Int) (S S' : Est) : Prop where
  d : S'.D = K * S.D
  l : ∀ i, m * at0 S'.ld i = K * at0 S.ld i
  n : S'.ld.length = S.ld.length
  s : S'.se.map Prod.fst = S.se.map Prod.fst
  q : ∀ (i : Nat) (y y' : Int × Int × Int), S.se[i]? = some y → S'.se[i]? = some y' → y'.2.1 * m * y.2.2 = y.2.1 * y'.2.2
theorem at0_load_map {l : List Nat} {v k : Int} {ld : List Int} (i : Nat) (h : ∀ j ∈ l, j < ld.length) : at0 (loadTo l v (ld.map (· * k))) i = if i ∈ l then v else at0 ld i * k := by
  rcases Nat.lt_or_ge i ld.length with hi | hi
  · rw [at0_load (by rw [List.length_map]; exact hi), at0_mul]
  · have h1 : i ∉ l := fun hm => by have := h i hm; omega
    rw [if_neg h1, ← at0_mul]
    unfold at0
    rw [loadTo_get, List.getElem?_eq_none (by rw [List.length_map]; omega)]; rfl
end Go.Proofs.Wk
/- Elections: what holds after each round (plain): scores rise, loads' sums, what is given. -/
namespace Go.Proofs.Wk
open Go.RowKit
set_option linter.unusedVariables false
set_option linter.unusedSimpArgs false
/-! ### The best one is the best -/
def BestP (vs : List Vtr) (S : Est) (b : Bs) (seen : List Int) : Prop := match b with
  | none => ∀ c ∈ seen, elig vs S c = false
  | some (_, l, y) => 0 < y ∧ ∀ c ∈ seen, elig vs S c = true → l * scT vs (ap vs c) ≤ scN S.D vs S.ld (ap vs c) * y
theorem bestP_step {vs : List Vtr} (hV : VOk vs) {S : Est} {b : Bs} {seen : List Int} (h : BestP vs S b seen) (c : Int) : BestP vs S (seek vs S b c) (seen ++ [c]) := by
  unfold seek
  cases he : elig vs S c
  · rw [if_neg Bool.false_ne_true]
    obtain _ | ⟨c', l, y⟩ := b
    · intro d hd
      rcases List.mem_append.1 hd with hd | hd
      · exact h d hd
      · rw [List.mem_singleton.1 hd]; exact he
    · refine ⟨h.1, fun d hd hde => ?_⟩
      rcases List.mem_append.1 hd with hd | hd
      · exact h.2 d hd hde
      · rw [List.mem_singleton.1 hd, he] at hde; cases hde
  · rw [if_pos rfl]
    have hT := scT_pos hV (elig_ap he)
    obtain _ | ⟨c', l, y⟩ := b
    · show BestP vs S (some (c, _, _)) _
      refine ⟨hT, fun d hd hde => ?_⟩
      rcases List.mem_append.1 hd with hd | hd
      · rw [h d hd] at hde; cases hde
      · rw [List.mem_singleton.1 hd]; exact Int.le_refl _
    · show BestP vs S (if decide (scN S.D vs S.ld (ap vs c) * y < l * scT vs (ap vs c)) = true then _ else _) _
      obtain ⟨h1, h2⟩ := h
      by_cases hlt : scN S.D vs S.ld (ap vs c) * y < l * scT vs (ap vs c)
      · rw [if_pos (decide_eq_true hlt)]
        refine ⟨hT, fun d hd hde => ?_⟩
        rcases List.mem_append.1 hd with hd | hd
        · have h3 := h2 d hd hde
          have hTd := scT_pos hV (elig_ap hde)
          generalize scN S.D vs S.ld (ap vs c) = su at *
          generalize scT vs (ap vs c) = sk at *
          generalize scN S.D vs S.ld (ap vs d) = N at *
          generalize scT vs (ap vs d) = T at *
          have a1 : su * y * T ≤ l * sk * T := Int.mul_le_mul_of_nonneg_right (by omega) (by omega)
          have a2 : l * T * sk ≤ N * y * sk := Int.mul_le_mul_of_nonneg_right h3 (by omega)
          refine Int.le_of_mul_le_mul_right (a := y) ?_ h1
          have e1 : su * T * y = su * y * T := by grind
          have e2 : N * sk * y = N * y * sk := by grind
          have e3 : l * sk * T = l * T * sk := by grind
          omega
        · rw [List.mem_singleton.1 hd]; exact Int.le_refl _
      · rw [if_neg (by simpa using hlt)]
        refine ⟨h1, fun d hd hde => ?_⟩
        rcases List.mem_append.1 hd with hd | hd
        · exact h2 d hd hde
        · rw [List.mem_singleton.1 hd]; omega
theorem bestP_all {vs : List Vtr} (hV : VOk vs) (S : Est) (cs : List Int) : BestP vs S (best vs S cs) cs := by
  have key : ∀ (l seen : List Int) (b : Bs), BestP vs S b seen → BestP vs S (l.foldl (seek vs S) b) (seen ++ l) := by
    intro l
    induction l with
    | nil => intro seen b h; rw [List.append_nil]; exact h
    | cons c l ih =>
      intro seen b h
      have h1 := ih (seen ++ [c]) _ (bestP_step hV h c)
      rwa [List.append_assoc] at h1
  have h0 : BestP vs S none [] := fun c hc => by cases hc
  exact key cs [] none h0
/-! ### Sums -/
theorem sumL_add (f g : Nat → Int) (l : List Nat) : sumL (fun i => f i + g i) l = sumL f l + sumL g l := by
  induction l with
  | nil => rfl
  | cons i l ih => rw [sumL_cons, sumL_cons, sumL_cons, ih]; omega
theorem sumL_if (p : Nat → Bool) (f : Nat → Int) (l : List Nat) : sumL (fun i => if p i = true then f i else 0) l = sumL f (l.filter p) := by
  induction l with
  | nil => rfl
  | cons i l ih =>
    rw [sumL_cons, ih, List.filter_cons]
    cases p i
    · simp
    · simp only [if_true]; rw [sumL_cons]
def apP2 (vs : List Vtr) (c : Int) (i : Nat) : Bool := decide (0 < st vs i) && decide (c ∈ pks vs i)
theorem ap_p {vs : List Vtr} {c : Int} {i : Nat} (hi : i < vs.length) : i ∈ ap vs c ↔ apP2 vs c i = true := by
  rw [ap_mem]; unfold apP2; simp [hi]
/-- A voter's load behind a round. -/
theorem ld_next {vs : List Vtr} {S : Est} (hl : S.ld.length = vs.length) {c N T : Int} {i : Nat} (hi : i < vs.length) : at0 (nextE vs S c N T).ld i = at0 S.ld i * T + (if apP2 vs c i = true then N - at0 S.ld i * T else 0) := by
  show at0 (loadTo (ap vs c) N (S.ld.map (· * T))) i = _
  rw [at0_load_map i (fun j hj => by rw [hl]; exact ap_lt j hj)]
  by_cases h : apP2 vs c i = true
  · rw [if_pos ((ap_p hi).2 h), if_pos h]; omega
  · rw [if_neg (fun hm => h ((ap_p hi).1 hm)), if_neg h]; omega
theorem ld_next_le {vs : List Vtr} {S : Est} (hl : S.ld.length = vs.length) {c N T σ : Int} (hT : 0 ≤ T) (hN : σ * T ≤ N) (hσ : ∀ i, at0 S.ld i ≤ σ) (i : Nat) : at0 (nextE vs S c N T).ld i ≤ N ∧ at0 S.ld i * T ≤ at0 (nextE vs S c N T).ld i := by
  show at0 (loadTo (ap vs c) N (S.ld.map (· * T))) i ≤ N ∧ _ ≤ at0 (loadTo (ap vs c) N (S.ld.map (· * T))) i
  rw [at0_load_map i (fun j hj => by rw [hl]; exact ap_lt j hj)]
  have h1 : at0 S.ld i * T ≤ σ * T := Int.mul_le_mul_of_nonneg_right (hσ i) hT
  split
  · exact ⟨Int.le_refl _, by omega⟩
  · exact ⟨by omega, Int.le_refl _⟩
theorem sum_next {vs : List Vtr} {S : Est} (hl : S.ld.length = vs.length) {c N T : Int} (l : List Nat) (hi : ∀ i ∈ l, i < vs.length) : sumL (fun i => at0 (nextE vs S c N T).ld i * st vs i) l = T * sumL (fun i => at0 S.ld i * st vs i) l + sumL (fun i => (N - at0 S.ld i * T) * st vs i) (l.filter (apP2 vs c)) := by
  rw [← sumL_mul, ← sumL_if, ← sumL_add]
  refine sumL_congr fun i h => ?_
  rw [ld_next hl (hi i h)]
  split <;> grind
theorem gain_ap (vs : List Vtr) (S : Est) (c : Int) : sumL (fun i => (scN S.D vs S.ld (ap vs c) - at0 S.ld i * scT vs (ap vs c)) * st vs i) (ap vs c) = scT vs (ap vs c) * S.D := by
  have h1 : sumL (fun i => (scN S.D vs S.ld (ap vs c) - at0 S.ld i * scT vs (ap vs c)) * st vs i) (ap vs c) = scN S.D vs S.ld (ap vs c) * scT vs (ap vs c) + (- scT vs (ap vs c)) * sumL (fun i => at0 S.ld i * st vs i) (ap vs c) := by
    show _ = scN S.D vs S.ld (ap vs c) * sumL (st vs) (ap vs c) + _
    rw [← sumL_mul, ← sumL_mul, ← sumL_add]
    refine sumL_congr fun i _ => ?_
    show _ = scN S.D vs S.ld (ap vs c) * st vs i + _
    grind
  rw [h1]
  have h2 : scN S.D vs S.ld (ap vs c) = S.D + sumL (fun i => at0 S.ld i * st vs i) (ap vs c) := rfl
  generalize sumL (fun i => at0 S.ld i * st vs i) (ap vs c) = Z at h2 ⊢
  rw [h2]
  grind
/-! ### What holds behind j rounds; σ: the last score, over D -/
structure Inv (vs : List Vtr) (cs : List Int) (j : Nat) (σ : Int) (S : Est) : Prop where
  lm : ∀ i, at0 S.ld i ≤ σ
  el : ∀ c ∈ cs, elig vs S c = true → σ * scT vs (ap vs c) ≤ scN S.D vs S.ld (ap vs c)
  tot : sumL (fun i => at0 S.ld i * st vs i) (List.range vs.length) = j * S.D
  len : S.se.length = j
  nd : (S.se.map Prod.fst).Nodup
  sub : ∀ y ∈ S.se, y.1 ∈ cs ∧ ap vs y.1 ≠ []
  adj : ∀ (i : Nat) (p q : Int × Int × Int), S.se[i]? = some p → S.se[i + 1]? = some q → p.2.1 * q.2.2 ≤ q.2.1 * p.2.2
  last : ∀ (i : Nat) (p : Int × Int × Int), i + 1 = j → S.se[i]? = some p → p.2.1 = σ ∧ p.2.2 = S.D
  has : ∀ y ∈ S.se, ∀ i ∈ ap vs y.1, ∃ l, S.ed[i]? = some l ∧ ∃ x ∈ l, x.1 = y.1
  dv : ∀ (i : Nat) (l : List (Int × Int × Int)), S.ed[i]? = some l → (∀ x ∈ l, x.2.2 ∣ S.D) ∧ (l.map (fun x => x.2.1 * (S.D / x.2.2))).sum = at0 S.ld i ∧ (l.map Prod.fst).Nodup
theorem inv_beg (vs : List Vtr) (cs : List Int) (hV : VOk vs) : Inv vs cs 0 0 (begE vs) := by
  have h0 : ∀ i, at0 (begE vs).ld i = 0 := fun i => by
    show (((vs.map (fun _ => (0 : Int)))[i]?).getD 0) = 0
    rw [List.getElem?_map]
    cases vs[i]? <;> rfl
  refine ⟨fun i => by rw [h0]; exact Int.le_refl _, fun c _ he => ?_, ?_, rfl, List.nodup_nil, fun y hy => (by cases hy), fun i p q hp => (by cases hp), fun i p hi => (by omega), fun y hy => (by cases hy), ?_⟩
  · rw [Int.zero_mul]
    have := (scN_ok hV (beg_ok vs) (ap_sub vs c)).1
    omega
  · have : sumL (fun i => at0 (begE vs).ld i * st vs i) (List.range vs.length) = sumL (fun i => 0 * st vs i) (List.range vs.length) := sumL_congr fun i _ => by rw [h0]
    rw [this, sumL_mul]; simp
  · intro i l hl
    have hm : l ∈ vs.map (fun _ => ([] : List (Int × Int × Int))) := List.mem_of_getElem? hl
    obtain ⟨v, _, rfl⟩ := List.mem_map.1 hm
    exact ⟨fun x hx => (by cases hx), by rw [h0]; rfl, List.nodup_nil⟩
theorem elig_not {vs : List Vtr} {S : Est} {c : Int} (h : elig vs S c = true) : ∀ y ∈ S.se, y.1 ≠ c := by
  unfold elig at h
  rw [Bool.and_eq_true, Bool.not_eq_true', Bool.not_eq_true', List.any_eq_false] at h
  intro y hy e
  have := h.2 y hy
  rw [e] at this
  simp at this
theorem elig_next {vs : List Vtr} {S : Est} {c d N T : Int} (h : elig vs (nextE vs S c N T) d = true) : elig vs S d = true ∧ d ≠ c := by
  unfold elig at h ⊢
  rw [Bool.and_eq_true, Bool.not_eq_true', Bool.not_eq_true', List.any_eq_false] at h
  have h2 : ∀ x ∈ S.se ++ [(c, N, S.D * T)], ¬ decide (x.1 = d) = true := h.2
  refine ⟨?_, fun e => ?_⟩
  · rw [Bool.and_eq_true, Bool.not_eq_true', Bool.not_eq_true', List.any_eq_false]
    exact ⟨h.1, fun x hx => h2 x (List.mem_append_left _ hx)⟩
  · have := h2 _ (List.mem_append_right _ (List.mem_singleton.2 rfl))
    simp [e] at this
theorem inv_next {vs : List Vtr} {cs : List Int} {a j : Nat} {σ : Int} {S S' : Est} (hV : VOk vs) (hS : EOk vs a S) (h : Inv vs cs j σ S) (hr : rnd vs cs S = some S') :
    ∃ c N T, best vs S cs = some (c, N, T) ∧ S' = nextE vs S c N T ∧ N = scN S.D vs S.ld (ap vs c) ∧ T = scT vs (ap vs c) ∧ 0 < T ∧ c ∈ cs ∧ elig vs S c = true ∧ σ * T ≤ N ∧ (∀ d ∈ cs, elig vs S d = true → N * scT vs (ap vs d) ≤ scN S.D vs S.ld (ap vs d) * T) ∧ Inv vs cs (j + 1) N S' := by
  unfold rnd at hr
  cases hb : best vs S cs with
  | none => rw [hb] at hr; cases hr
  | some b =>
    obtain ⟨c, N, T⟩ := b
    rw [hb] at hr
    have hr := (Option.some.inj hr).symm
    dsimp only at hr
    obtain ⟨hc, he, hN, hT⟩ := best_ok hb
    dsimp only at hc he hN hT
    have hTp : 0 < T := by rw [hT]; exact scT_pos hV (elig_ap he)
    have hσ : σ * T ≤ N := by rw [hN, hT]; exact h.el c hc he
    have hmin : ∀ d ∈ cs, elig vs S d = true → N * scT vs (ap vs d) ≤ scN S.D vs S.ld (ap vs d) * T := by
      have := bestP_all hV S cs
      rw [hb] at this
      exact this.2
    refine ⟨c, N, T, rfl, hr, hN, hT, hTp, hc, he, hσ, hmin, ?_⟩
    subst hr
    have hle := ld_next_le (c := c) hS.ll (Int.le_of_lt hTp) hσ h.lm
    have hD := hS.d0
    refine ⟨fun i => (hle i).1, fun d hd hde => ?_, ?_, ?_, ?_, ?_, ?_, ?_, ?_, ?_⟩
    · obtain ⟨h1, h2⟩ := elig_next hde
      have h3 := hmin d hd h1
      have h4 : scN S.D vs S.ld (ap vs d) * T ≤ scN (nextE vs S c N T).D vs (nextE vs S c N T).ld (ap vs d) := by
        unfold scN
        rw [Int.add_mul]
        show S.D * T + _ ≤ S.D * T + _
        have h5 : sumL (fun i => at0 S.ld i * st vs i) (ap vs d) * T = sumL (fun i => T * (at0 S.ld i * st vs i)) (ap vs d) := by rw [sumL_mul, Int.mul_comm]
        rw [h5]
        have h6 : sumL (fun i => T * (at0 S.ld i * st vs i)) (ap vs d) ≤ sumL (fun i => at0 (nextE vs S c N T).ld i * st vs i) (ap vs d) := sumL_le fun i _ => by
          have h7 : at0 S.ld i * T * st vs i ≤ at0 (nextE vs S c N T).ld i * st vs i := Int.mul_le_mul_of_nonneg_right (hle i).2 (hV.s i)
          have h8 : T * (at0 S.ld i * st vs i) = at0 S.ld i * T * st vs i := by grind
          omega
        omega
      omega
    · rw [sum_next hS.ll _ (fun i hi => List.mem_range.1 hi), h.tot]
      show T * (j * S.D) + sumL _ (ap vs c) = ((j + 1 : Nat) : Int) * (S.D * T)
      have hg := gain_ap vs S c
      rw [← hN, ← hT] at hg
      rw [hg]
      push_cast
      grind
    · show (S.se ++ [_]).length = j + 1
      rw [List.length_append, h.len]; rfl
    · show ((S.se ++ [_]).map Prod.fst).Nodup
      rw [List.map_append, List.nodup_append]
      refine ⟨h.nd, by simp, fun x hx y hy => ?_⟩
      obtain ⟨z, hz, rfl⟩ := List.mem_map.1 hx
      rw [List.mem_singleton.1 hy]
      exact elig_not he z hz
    · intro y hy
      rcases List.mem_append.1 hy with hy | hy
      · exact h.sub y hy
      · rw [List.mem_singleton.1 hy]; exact ⟨hc, elig_ap he⟩
    · intro i p q hp hq
      have hp : (S.se ++ [(c, N, S.D * T)])[i]? = some p := hp
      have hq : (S.se ++ [(c, N, S.D * T)])[i + 1]? = some q := hq
      rcases Nat.lt_or_ge (i + 1) S.se.length with hi | hi
      · rw [List.getElem?_append_left (by omega)] at hp
        rw [List.getElem?_append_left hi] at hq
        exact h.adj i p q hp hq
      · rw [List.getElem?_append_right hi] at hq
        cases hj : i + 1 - S.se.length with
        | succ n => rw [hj] at hq; cases hq
        | zero =>
          rw [hj] at hq
          rw [← Option.some.inj hq]
          rw [List.getElem?_append_left (by omega)] at hp
          obtain ⟨e1, e2⟩ := h.last i p (by have := h.len; omega) hp
          show p.2.1 * (S.D * T) ≤ N * p.2.2
          rw [e1, e2]
          have := Int.mul_le_mul_of_nonneg_right hσ (Int.le_of_lt hD)
          have e3 : σ * (S.D * T) = σ * T * S.D := by grind
          omega
    · intro i p hi hp
      have hp : (S.se ++ [(c, N, S.D * T)])[i]? = some p := hp
      have hl := h.len
      rw [List.getElem?_append_right (by omega), show i - S.se.length = 0 by omega] at hp
      rw [← Option.some.inj hp]
      exact ⟨rfl, rfl⟩
    · intro y hy i hi
      show ∃ l, (giveTo (ap vs c) c N (S.D * T) (S.ld.map (· * T)) S.ed)[i]? = some l ∧ _
      rw [giveTo_get]
      rcases List.mem_append.1 hy with hy | hy
      · obtain ⟨l, hl, x, hx, e⟩ := h.has y hy i hi
        rw [hl]
        refine ⟨_, rfl, x, ?_, e⟩
        split
        · exact List.mem_append_left _ hx
        · exact hx
      · rw [List.mem_singleton.1 hy] at hi ⊢
        have hlt := ap_lt i hi
        rw [List.getElem?_eq_getElem (by rw [hS.el]; exact hlt)]
        refine ⟨_, rfl, (c, sub0 N (at0 (S.ld.map (· * T)) i), S.D * T), ?_, rfl⟩
        show _ ∈ (if i ∈ ap vs c then _ else _)
        rw [if_pos hi]
        exact List.mem_append_right _ (List.mem_singleton.2 rfl)
    · intro i l hl
      have hl : (giveTo (ap vs c) c N (S.D * T) (S.ld.map (· * T)) S.ed)[i]? = some l := hl
      rw [giveTo_get] at hl
      cases e : S.ed[i]? with
      | none => rw [e] at hl; cases hl
      | some m =>
        rw [e] at hl
        have hi : i < vs.length := by rw [← hS.el]; exact (List.getElem?_eq_some_iff.1 e).1
        obtain ⟨d1, d2, d3⟩ := h.dv i m e
        have hl := (Option.some.inj hl).symm
        have dvd : ∀ x ∈ m, x.2.2 ∣ S.D * T := fun x hx => Int.dvd_mul_of_dvd_left (d1 x hx)
        have hsum : (m.map (fun x => x.2.1 * (S.D * T / x.2.2))).sum = at0 S.ld i * T := by
          rw [← d2]
          have : ∀ m : List (Int × Int × Int), (∀ x ∈ m, x.2.2 ∣ S.D) → (m.map (fun x => x.2.1 * (S.D * T / x.2.2))).sum = (m.map (fun x => x.2.1 * (S.D / x.2.2))).sum * T := by
            intro m
            induction m with
            | nil => intro _; simp
            | cons x m ih =>
              intro hm
              rw [List.map_cons, List.map_cons, List.sum_cons, List.sum_cons, ih (fun y hy => hm y (List.mem_cons_of_mem _ hy)), Int.add_mul, Int.mul_ediv_assoc' T (hm x (List.mem_cons_self ..)), Int.mul_assoc]
          exact this m d1
        have hld : at0 (nextE vs S c N T).ld i = if i ∈ ap vs c then N else at0 S.ld i * T := at0_load_map i (fun j hj => by rw [hS.ll]; exact ap_lt j hj)
        rw [hld]
        show (∀ x ∈ l, x.2.2 ∣ S.D * T) ∧ (l.map (fun x => x.2.1 * (S.D * T / x.2.2))).sum = _ ∧ _
        dsimp only at hl
        by_cases hm : i ∈ ap vs c
        · rw [if_pos hm] at hl ⊢
          have hDT : S.D * T ≠ 0 := by have := Int.mul_pos hD hTp; omega
          subst hl
          refine ⟨fun x hx => ?_, ?_, ?_⟩
          · rcases List.mem_append.1 hx with hx | hx
            · exact dvd x hx
            · rw [List.mem_singleton.1 hx]; exact Int.dvd_refl _
          · rw [List.map_append, List.sum_append, hsum]
            show at0 S.ld i * T + (List.map _ [(c, sub0 N (at0 (S.ld.map (· * T)) i), S.D * T)]).sum = N
            rw [List.map_cons, List.map_nil, List.sum_cons, List.sum_nil]
            show at0 S.ld i * T + (sub0 N (at0 (S.ld.map (· * T)) i) * (S.D * T / (S.D * T)) + 0) = N
            rw [Int.ediv_self hDT, at0_mul]
            have h9 : at0 S.ld i * T ≤ N := by
              have := Int.mul_le_mul_of_nonneg_right (h.lm i) (Int.le_of_lt hTp)
              omega
            unfold sub0
            rw [if_neg (by omega)]; omega
          · rw [List.map_append, List.nodup_append]
            refine ⟨d3, by simp, fun x hx y hy => ?_⟩
            obtain ⟨z, hz, rfl⟩ := List.mem_map.1 hx
            rw [List.mem_singleton.1 hy]
            obtain ⟨w, hw, e2⟩ := hS.k0 i m e z hz
            rw [← e2]
            exact elig_not he w hw
        · rw [if_neg hm] at hl ⊢
          subst hl
          exact ⟨dvd, hsum, d3⟩
theorem runE_snoc (vs : List Vtr) (cs : List Int) : ∀ (k : Nat) (S : Est), runE vs cs (k + 1) S = (rnd vs cs (runE vs cs k S)).getD (runE vs cs k S)
  | 0, S => by
    show (match rnd vs cs S with | none => S | some S' => runE vs cs 0 S') = _
    show _ = (rnd vs cs S).getD S
    cases rnd vs cs S <;> rfl
  | k + 1, S => by
    show (match rnd vs cs S with | none => S | some S' => runE vs cs (k + 1) S') = (rnd vs cs (match rnd vs cs S with | none => S | some S' => runE vs cs k S')).getD (match rnd vs cs S with | none => S | some S' => runE vs cs k S')
    cases h : rnd vs cs S with
    | none => show S = (rnd vs cs S).getD S; rw [h]; rfl
    | some S' => exact runE_snoc vs cs k S'
theorem elect_snoc (vs : List Vtr) (cs : List Int) (k : Nat) : electE vs cs (k + 1) = (rnd vs cs (electE vs cs k)).getD (electE vs cs k) := runE_snoc vs cs k _
/-- Behind all rounds: as many as were asked, or none is left. -/
theorem elect_inv {vs : List Vtr} (hV : VOk vs) (cs : List Int) : ∀ k, ∃ j σ, Inv vs cs j σ (electE vs cs k) ∧ j ≤ k ∧ (j = k ∨ rnd vs cs (electE vs cs k) = none)
  | 0 => ⟨0, 0, inv_beg vs cs hV, Nat.le_refl _, .inl rfl⟩
  | k + 1 => by
    obtain ⟨j, σ, h, hj, hk⟩ := elect_inv hV cs k
    rw [elect_snoc]
    cases hr : rnd vs cs (electE vs cs k) with
    | none =>
      refine ⟨j, σ, h, by omega, .inr ?_⟩
      exact hr
    | some S' =>
      have hjk : j = k := hk.resolve_right (by rw [hr]; simp)
      obtain ⟨c, N, T, _, _, _, _, _, _, _, _, _, hi⟩ := inv_next hV (elect_ok hV cs k) h hr
      exact ⟨j + 1, N, hi, by omega, .inl (by omega)⟩
theorem rnd_none {vs : List Vtr} (hV : VOk vs) {cs : List Int} {S : Est} (h : rnd vs cs S = none) : ∀ c ∈ cs, elig vs S c = false := by
  unfold rnd at h
  have h1 := bestP_all hV S cs
  cases hb : best vs S cs with
  | none => rw [hb] at h1; exact h1
  | some b => rw [hb] at h; cases h
end Go.Proofs.Wk
/- Elections: no group is due more than it has; all seats are filled; whoever gives gives its stake (plain). -/
namespace Go.Proofs.Wk
open Go.RowKit
set_option linter.unusedVariables false
set_option linter.unusedSimpArgs false
/-! ### Groups -/
def grp (vs : List Vtr) (g : Nat → Bool) : List Nat := (List.range vs.length).filter g
def cntG (vs : List Vtr) (g : Nat → Bool) (se : List (Int × Int × Int)) : Nat := (se.filter (fun y => (ap vs y.1).any g)).length
abbrev ldS (vs : List Vtr) (S : Est) (l : List Nat) : Int := sumL (fun i => at0 S.ld i * st vs i) l
theorem grp_next {vs : List Vtr} {S : Est} (hV : VOk vs) (hl : S.ld.length = vs.length) {c N T σ : Int} (hT : 0 ≤ T) (hσ : σ * T ≤ N) (hlm : ∀ i, at0 S.ld i ≤ σ) (hD : 0 ≤ S.D) (hN : N = scN S.D vs S.ld (ap vs c)) (hT2 : T = scT vs (ap vs c)) (g : Nat → Bool) (h : ldS vs S (grp vs g) ≤ cntG vs g S.se * S.D) :
    ldS vs (nextE vs S c N T) (grp vs g) ≤ cntG vs g (nextE vs S c N T).se * (nextE vs S c N T).D := by
  have hf : ∀ i, 0 ≤ (N - at0 S.ld i * T) * st vs i := fun i => by
    refine Int.mul_nonneg ?_ (hV.s i)
    have := Int.mul_le_mul_of_nonneg_right (hlm i) hT
    omega
  unfold ldS
  rw [sum_next hl (grp vs g) (fun i hi => List.mem_range.1 (List.mem_filter.1 hi).1)]
  show _ ≤ (cntG vs g (S.se ++ [(c, N, S.D * T)]) : Int) * (S.D * T)
  have hcn : cntG vs g (S.se ++ [(c, N, S.D * T)]) = cntG vs g S.se + (if (ap vs c).any g = true then 1 else 0) := by
    unfold cntG
    rw [List.filter_append, List.length_append]
    congr 1
    rw [List.filter_cons, List.filter_nil]
    show (if (ap vs c).any g = true then [(c, N, S.D * T)] else []).length = _
    split <;> rfl
  rw [hcn]
  have h1 : T * ldS vs S (grp vs g) ≤ T * (cntG vs g S.se * S.D) := Int.mul_le_mul_of_nonneg_left h hT
  by_cases hg : (ap vs c).any g = true
  · rw [if_pos hg]
    have h2 : sumL (fun i => (N - at0 S.ld i * T) * st vs i) ((grp vs g).filter (apP2 vs c)) ≤ sumL (fun i => (N - at0 S.ld i * T) * st vs i) (ap vs c) := sumL_sub (List.Sublist.filter _ List.filter_sublist) hf
    have h3 := gain_ap vs S c
    rw [← hN, ← hT2] at h3
    rw [h3] at h2
    push_cast
    have e1 : ((cntG vs g S.se : Int) + 1) * (S.D * T) = T * (cntG vs g S.se * S.D) + T * S.D := by grind
    unfold ldS at h1
    omega
  · rw [if_neg hg]
    have h2 : (grp vs g).filter (apP2 vs c) = [] := by
      rw [List.filter_eq_nil_iff]
      intro i hi hp
      have hi2 := List.mem_filter.1 hi
      exact hg (List.any_eq_true.2 ⟨i, (ap_p (List.mem_range.1 hi2.1)).2 hp, hi2.2⟩)
    rw [h2, sumL_nil, Nat.add_zero]
    have e1 : (cntG vs g S.se : Int) * (S.D * T) = T * (cntG vs g S.se * S.D) := by grind
    unfold ldS at h1
    omega
theorem grp_le {vs : List Vtr} (hV : VOk vs) (cs : List Int) (g : Nat → Bool) : ∀ k, ldS vs (electE vs cs k) (grp vs g) ≤ cntG vs g (electE vs cs k).se * (electE vs cs k).D
  | 0 => by
    have h0 : ∀ i, at0 (begE vs).ld i = 0 := fun i => by
      show (((vs.map (fun _ => (0 : Int)))[i]?).getD 0) = 0
      rw [List.getElem?_map]
      cases vs[i]? <;> rfl
    have : ldS vs (begE vs) (grp vs g) = sumL (fun i => 0 * st vs i) (grp vs g) := sumL_congr fun i _ => by rw [h0]
    show ldS vs (begE vs) (grp vs g) ≤ (0 : Nat) * 1
    rw [this, sumL_mul]; simp
  | k + 1 => by
    have ih := grp_le hV cs g k
    rw [elect_snoc]
    cases hr : rnd vs cs (electE vs cs k) with
    | none => exact ih
    | some S' =>
      obtain ⟨j, σ, h, hj, hk⟩ := elect_inv hV cs k
      have hS := elect_ok hV cs k
      obtain ⟨c, N, T, _, e, hN, hT, hTp, _, _, hσ, _, hi⟩ := inv_next hV hS h hr
      show ldS vs S' _ ≤ cntG vs g S'.se * S'.D
      rw [e]
      exact grp_next hV hS.ll (Int.le_of_lt hTp) hσ h.lm (Int.le_of_lt hS.d0) hN hT g ih
theorem fair_plain {vs : List Vtr} (hV : VOk vs) {cs : List Int} {k r : Nat} {g : Nat → Bool} {c0 : Int} (hg : ∀ i, i < vs.length → g i = true → 0 < st vs i ∧ c0 ∈ pks vs i) (hc0 : c0 ∈ cs) (hno : ∀ y ∈ (electE vs cs k).se, y.1 ≠ c0)
    (hw : 0 < sumL (st vs) (grp vs g)) (hr1 : 1 ≤ r) (hrk : r ≤ k) (hcnt : cntG vs g (electE vs cs k).se + 1 ≤ r) :
    sumL (st vs) (grp vs g) * k < sumL (st vs) (List.range vs.length) * r := by
  obtain ⟨k', rfl⟩ : ∃ k', k = k' + 1 := ⟨k - 1, by omega⟩
  have hsub : (grp vs g).Sublist (ap vs c0) := by
    have : grp vs g = (ap vs c0).filter g := by
      unfold grp ap
      rw [List.filter_filter]
      refine List.filter_congr fun i hi => ?_
      cases hgi : g i
      · rfl
      · have := hg i (List.mem_range.1 hi) hgi
        rw [decide_eq_true this.1, decide_eq_true this.2]; rfl
    rw [this]; exact List.filter_sublist
  have hap : ap vs c0 ≠ [] := fun e => by
    rw [e] at hsub
    rw [List.sublist_nil.1 hsub] at hw
    exact absurd hw (by rw [sumL_nil]; omega)
  have hel : ∀ S : Est, (∀ y ∈ S.se, y.1 ≠ c0) → elig vs S c0 = true := fun S h => by
    unfold elig
    rw [Bool.and_eq_true, Bool.not_eq_true', Bool.not_eq_true', List.any_eq_false]
    exact ⟨by cases hh : ap vs c0 with | nil => exact absurd hh hap | cons _ _ => rfl, fun y hy => by simpa using h y hy⟩
  have hS := elect_ok hV cs k'
  have hG' := grp_le hV cs g (k' + 1)
  have hG := grp_le hV cs g k'
  rw [elect_snoc] at hno hcnt hG'
  obtain ⟨j, σ, hI, _, hjk⟩ := elect_inv hV cs k'
  cases hr : rnd vs cs (electE vs cs k') with
  | none =>
    rw [hr] at hno
    have := rnd_none hV hr c0 hc0
    rw [hel (electE vs cs k') hno] at this; cases this
  | some S' =>
    have hj : j = k' := hjk.resolve_right (by rw [hr]; simp)
    subst hj
    rw [hr, Option.getD_some] at hno hcnt hG'
    obtain ⟨c, N, T, hb, e, hN, hT, hTp, _, _, hσ, hmin, hI'⟩ := inv_next hV hS hI hr
    generalize hSd : electE vs cs j = S at *
    have hse : S'.se = S.se ++ [(c, N, S.D * T)] := by rw [e]; rfl
    have hDD : S'.D = S.D * T := by rw [e]; rfl
    have hmin0 := hmin c0 hc0 (hel S fun y hy => hno y (by rw [hse]; exact List.mem_append_left _ hy))
    have hN0 : 0 < N := by rw [hN]; exact (scN_ok hV hS (ap_sub vs c)).1
    have hD := hS.d0
    have hf : ∀ i, 0 ≤ (N - at0 S.ld i * T) * st vs i := fun i => by
      refine Int.mul_nonneg ?_ (hV.s i)
      have := Int.mul_le_mul_of_nonneg_right (hI.lm i) (Int.le_of_lt hTp)
      omega
    have spl : ∀ l : List Nat, sumL (fun i => (N - at0 S.ld i * T) * st vs i) l = N * sumL (st vs) l - T * ldS vs S l := fun l => by
      unfold ldS
      have h1 : sumL (fun i => (N - at0 S.ld i * T) * st vs i) l = sumL (fun i => N * st vs i + (-T) * (at0 S.ld i * st vs i)) l := sumL_congr fun i _ => by grind
      rw [h1, sumL_add, sumL_mul, sumL_mul]; grind
    have hA1 : sumL (fun i => (N - at0 S.ld i * T) * st vs i) (grp vs g) ≤ sumL (fun i => (N - at0 S.ld i * T) * st vs i) (ap vs c0) := sumL_sub hsub hf
    rw [spl, spl] at hA1
    have hA2 : N * sumL (st vs) (ap vs c0) - T * ldS vs S (ap vs c0) ≤ T * S.D := by
      have h1 : scN S.D vs S.ld (ap vs c0) = S.D + ldS vs S (ap vs c0) := rfl
      have h2 : scT vs (ap vs c0) = sumL (st vs) (ap vs c0) := rfl
      rw [h1, h2, Int.add_mul] at hmin0
      have e1 : S.D * T = T * S.D := Int.mul_comm _ _
      have e2 : ldS vs S (ap vs c0) * T = T * ldS vs S (ap vs c0) := Int.mul_comm _ _
      omega
    have hcm : cntG vs g S.se ≤ cntG vs g S'.se := by
      rw [hse]; unfold cntG; rw [List.filter_append, List.length_append]; omega
    have hA3 : T * ldS vs S (grp vs g) ≤ T * (cntG vs g S.se * S.D) := Int.mul_le_mul_of_nonneg_left hG (Int.le_of_lt hTp)
    have hD' : 0 < S'.D := by rw [hDD]; exact Int.mul_pos hD hTp
    -- N * W ≤ D' * r
    have hA : N * sumL (st vs) (grp vs g) ≤ S'.D * r := by
      have h1 : ((cntG vs g S.se : Int) + 1) * S'.D ≤ r * S'.D := Int.mul_le_mul_of_nonneg_right (by omega) (Int.le_of_lt hD')
      have e1 : ((cntG vs g S.se : Int) + 1) * S'.D = T * (cntG vs g S.se * S.D) + T * S.D := by rw [hDD]; grind
      have e2 : (r : Int) * S'.D = S'.D * r := Int.mul_comm _ _
      omega
    -- k * D' ≤ N * V
    have spl' : ∀ l : List Nat, sumL (fun i => (N - at0 S'.ld i) * st vs i) l = N * sumL (st vs) l - ldS vs S' l := fun l => by
      unfold ldS
      have h1 : sumL (fun i => (N - at0 S'.ld i) * st vs i) l = sumL (fun i => N * st vs i + (-1) * (at0 S'.ld i * st vs i)) l := sumL_congr fun i _ => by grind
      rw [h1, sumL_add, sumL_mul, sumL_mul]; grind
    have hf' : ∀ i, 0 ≤ (N - at0 S'.ld i) * st vs i := fun i => Int.mul_nonneg (by have := hI'.lm i; omega) (hV.s i)
    have htot : ldS vs S' (List.range vs.length) = ((j + 1 : Nat) : Int) * S'.D := hI'.tot
    have hB := sumL_nonneg (l := List.range vs.length) (fun i _ => hf' i)
    rw [spl', htot] at hB
    have hBg : sumL (fun i => (N - at0 S'.ld i) * st vs i) (grp vs g) ≤ sumL (fun i => (N - at0 S'.ld i) * st vs i) (List.range vs.length) := sumL_sub List.filter_sublist hf'
    rw [spl', spl', htot] at hBg
    have hG2 : (cntG vs g S'.se : Int) * S'.D ≤ (r - 1) * S'.D := Int.mul_le_mul_of_nonneg_right (by omega) (Int.le_of_lt hD')
    generalize sumL (st vs) (grp vs g) = W at *
    generalize sumL (st vs) (List.range vs.length) = V at *
    generalize ldS vs S' (grp vs g) = X at *
    generalize S'.D = D' at *
    have hK0 : (0 : Int) < ((j + 1 : Nat) : Int) := by omega
    generalize ((j + 1 : Nat) : Int) = K at *
    generalize hR : (r : Int) = R at *
    have hR0 : 0 < R := by omega
    by_cases hlt : W * K < V * R
    · exact hlt
    · exfalso
      have h1 : N * (V * R) ≤ N * (W * K) := Int.mul_le_mul_of_nonneg_left (by omega) (by omega)
      have h2 : N * W * K ≤ D' * R * K := Int.mul_le_mul_of_nonneg_right hA (by omega)
      have h3 : K * D' * R ≤ N * V * R := Int.mul_le_mul_of_nonneg_right (by omega) (by omega)
      have e1 : N * (V * R) = N * V * R := by grind
      have e2 : N * (W * K) = N * W * K := by grind
      have e3 : D' * R * K = K * D' * R := by grind
      have h4 : N * W * K = D' * R * K := by omega
      have h5 : N * V * R = K * D' * R := by omega
      have h6 : N * W = D' * R := Int.eq_of_mul_eq_mul_right (by omega) h4
      have h7 : N * V = K * D' := Int.eq_of_mul_eq_mul_right (by omega) h5
      have e4 : (R - 1) * D' = D' * R - D' := by grind
      omega
end Go.Proofs.Wk
/- The document's Fair: the plain law on lists. -/
namespace Go.Proofs.Wk
open Go.RowKit
set_option linter.unusedVariables false
set_option linter.unusedSimpArgs false
theorem nodup_len : ∀ {l m : List Int}, l.Nodup → (∀ x ∈ l, x ∈ m) → l.length ≤ m.length
  | [], m, _, _ => Nat.zero_le _
  | x :: l, m, h, hs => by
    have hx := hs x (List.mem_cons_self ..)
    obtain ⟨h1, h2⟩ := List.nodup_cons.1 h
    have h3 := nodup_len (m := m.erase x) h2 (fun y hy => (List.mem_erase_of_ne (fun e => h1 (by rw [← e]; exact hy))).2 (hs y (List.mem_cons_of_mem _ hy)))
    rw [List.length_erase_of_mem hx] at h3
    have := List.length_pos_of_mem hx
    rw [List.length_cons]; omega
theorem filter_sub {l m : List Nat} (h : l.Sublist m) (hn : m.Nodup) : m.filter (fun i => decide (i ∈ l)) = l := by
  induction h with
  | slnil => rfl
  | @cons l m a h ih =>
    obtain ⟨h1, h2⟩ := List.nodup_cons.1 hn
    rw [List.filter_cons, if_neg (by simpa using fun hm => h1 (h.subset hm))]
    exact ih h2
  | @cons_cons l m a h ih =>
    obtain ⟨h1, h2⟩ := List.nodup_cons.1 hn
    rw [List.filter_cons, if_pos (by simp)]
    congr 1
    refine Eq.trans (List.filter_congr fun i hi => ?_) (ih h2)
    have : i ≠ a := fun e => h1 (by rw [← e]; exact hi)
    simp [this]
def posB (v : Vtr) : Bool := decide (0 < v.st)
def posL (vs : List Vtr) : List Vtr := vs.filter posB
def posP (vs : List Vtr) : List Nat := (List.range vs.length).filter (fun i => decide (0 < st vs i))
theorem pos_map (vs : List Vtr) : ∀ i, i ≤ vs.length → ((List.range i).filter (fun i => decide (0 < st vs i))).map (fun i => vs[i]?) = ((vs.take i).filter posB).map some
  | 0, _ => by simp
  | i + 1, h => by
    obtain ⟨v, hv, _⟩ := get_at (show i < vs.length by omega)
    have hst : st vs i = v.st := by unfold st; rw [hv]; rfl
    rw [List.range_succ, List.filter_append, List.map_append, pos_map vs i (by omega), take_snoc hv, List.filter_append, List.map_append]
    congr 1
    rw [List.filter_cons, List.filter_cons, hst]
    show List.map _ (if decide (0 < v.st) = true then _ else _) = List.map some (if decide (0 < v.st) = true then _ else _)
    split
    · show [vs[i]?] = [some v]; rw [hv]
    · rfl
theorem pos_all (vs : List Vtr) : (posP vs).map (fun i => vs[i]?) = (posL vs).map some := by
  have := pos_map vs vs.length (Nat.le_refl _)
  rwa [List.take_length] at this
theorem pos_len (vs : List Vtr) : (posP vs).length = (posL vs).length := by
  have := congrArg List.length (pos_all vs)
  rwa [List.length_map, List.length_map] at this
theorem pos_get {vs : List Vtr} {j i : Nat} (h : (posP vs)[j]? = some i) : (posL vs)[j]? = vs[i]? := by
  have h1 : ((posP vs).map (fun i => vs[i]?))[j]? = ((posL vs).map some)[j]? := by rw [pos_all]
  rw [List.getElem?_map, List.getElem?_map, h] at h1
  cases e : (posL vs)[j]? with
  | none => rw [e] at h1; cases h1
  | some v => rw [e] at h1; exact (Option.some.inj h1).symm
def Gp (vs : List Vtr) (p : Nat → Bool) : List Nat := ((List.range (posP vs).length).filter p).filterMap (fun j => (posP vs)[j]?)
theorem range_get (l : List Nat) : ∀ i, i ≤ l.length → (List.range i).filterMap (fun j => l[j]?) = l.take i
  | 0, _ => by simp
  | i + 1, h => by
    obtain ⟨x, hx, _⟩ := get_at (show i < l.length by omega)
    rw [List.range_succ, List.filterMap_append, range_get l i (by omega), take_snoc hx]
    congr 1
    simp [hx]
theorem Gp_sub (vs : List Vtr) (p : Nat → Bool) : (Gp vs p).Sublist (posP vs) := by
  have h1 : (Gp vs p).Sublist ((List.range (posP vs).length).filterMap (fun j => (posP vs)[j]?)) := List.Sublist.filterMap _ List.filter_sublist
  rwa [range_get _ _ (Nat.le_refl _), List.take_length] at h1
theorem Gp_mem {vs : List Vtr} {p : Nat → Bool} {i : Nat} (h : i ∈ Gp vs p) : ∃ j, p j = true ∧ (posP vs)[j]? = some i := by
  obtain ⟨j, hj, e⟩ := List.mem_filterMap.1 h
  exact ⟨j, (List.mem_filter.1 hj).2, e⟩
theorem sumL_map {f f' : Nat → Int} {h : Nat → Option Nat} : ∀ {l : List Nat}, (∀ j ∈ l, ∃ i, h j = some i ∧ f' j = f i) → sumL f' l = sumL f (l.filterMap h)
  | [], _ => rfl
  | j :: l, hl => by
    obtain ⟨i, e1, e2⟩ := hl j (List.mem_cons_self ..)
    rw [List.filterMap_cons_some e1, sumL_cons, sumL_cons, e2, sumL_map (fun k hk => hl k (List.mem_cons_of_mem _ hk))]
def stP (L : List Vtr) (p : Nat → Bool) : Int := sumL (st L) ((List.range L.length).filter p)
def evB (L : List Vtr) (p : Nat → Bool) (c : Int) : Bool := (List.range L.length).all (fun i => !p i || decide (c ∈ pks L i))
def smB (L : List Vtr) (p : Nat → Bool) (c : Int) : Bool := (List.range L.length).any (fun i => p i && decide (c ∈ pks L i))
def memN (L : List Vtr) (p : Nat → Bool) (cs cm : List Int) : Nat := (cs.filter (fun c => smB L p c && decide (c ∈ cm))).length
def comN (L : List Vtr) (p : Nat → Bool) (cs : List Int) : Nat := (cs.filter (evB L p)).length
/-- No group is due more than it has. -/
def FairP (vs : List Vtr) (cs : List Int) (k : Nat) (cm : List Int) : Prop :=
  ∀ (p : Nat → Bool) (r : Nat), posL vs ≠ [] → memN (posL vs) p cs cm + 1 ≤ r → r ≤ comN (posL vs) p cs → r ≤ k → stP (posL vs) p * k < sumSt vs * r
theorem st_pos {vs : List Vtr} {j i : Nat} (e : (posP vs)[j]? = some i) : st (posL vs) j = st vs i ∧ pks (posL vs) j = pks vs i := by
  unfold st pks; rw [pos_get e]; exact ⟨rfl, rfl⟩
theorem stP_eq (vs : List Vtr) (p : Nat → Bool) : stP (posL vs) p = sumL (st vs) (Gp vs p) := by
  unfold stP Gp
  rw [← pos_len]
  refine sumL_map fun j hj => ?_
  have hj := List.mem_range.1 (List.mem_filter.1 hj).1
  obtain ⟨i, hi, _⟩ := get_at hj
  exact ⟨i, hi, (st_pos hi).1⟩
theorem sum_posL {vs : List Vtr} (h0 : ∀ v ∈ vs, 0 ≤ v.st) (h : posL vs ≠ []) : 0 < sumSt vs := by
  obtain ⟨v, l, e⟩ := List.exists_cons_of_ne_nil h
  have hv : v ∈ posL vs := by rw [e]; exact List.mem_cons_self ..
  obtain ⟨hv1, hv2⟩ := List.mem_filter.1 hv
  obtain ⟨i, hi⟩ := List.getElem?_of_mem hv1
  have hpos : 0 < v.st := of_decide_eq_true hv2
  have : ∀ l : List Vtr, (∀ u ∈ l, 0 ≤ u.st) → v ∈ l → v.st ≤ sumSt l := by
    intro l
    induction l with
    | nil => intro _ hm; cases hm
    | cons u r ih =>
      intro hl hm
      have h1 := hl u (List.mem_cons_self ..)
      have h2 := sumSt_nonneg (l := r) (fun x hx => hl x (List.mem_cons_of_mem _ hx))
      rcases List.mem_cons.1 hm with rfl | hm
      · simp only [sumSt]; omega
      · have := ih (fun x hx => hl x (List.mem_cons_of_mem _ hx)) hm
        simp only [sumSt]; omega
  have := this vs h0 hv1
  omega
theorem fair_elect {s : Sn} (hW : snW s) (hF : formB s = true) (k : Nat) : FairP s.vs s.cs k ((electE s.vs s.cs k).se.map Prod.fst) := by
  intro p r hne hr1 hr2 hr3
  have hV := vok_of hW hF
  obtain ⟨l1, l2, l3, l4⟩ := formB_all hF
  have hcs := ris_nodup l3
  have hS0 := sum_posL (fun v hv => (hW v hv).1) hne
  rw [stP_eq]
  have hsub : (Gp s.vs p).Sublist (List.range s.vs.length) := (Gp_sub s.vs p).trans List.filter_sublist
  have hgrp : grp s.vs (fun i => decide (i ∈ Gp s.vs p)) = Gp s.vs p := filter_sub hsub List.nodup_range
  by_cases hw : 0 < sumL (st s.vs) (Gp s.vs p)
  · -- one common candidate that is not elected
    have hex : ∃ c0 ∈ s.cs, evB (posL s.vs) p c0 = true ∧ (smB (posL s.vs) p c0 && decide (c0 ∈ (electE s.vs s.cs k).se.map Prod.fst)) = false := by
      by_cases h : ∃ c0 ∈ s.cs, evB (posL s.vs) p c0 = true ∧ (smB (posL s.vs) p c0 && decide (c0 ∈ (electE s.vs s.cs k).se.map Prod.fst)) = false
      · exact h
      · exfalso
        have : comN (posL s.vs) p s.cs ≤ memN (posL s.vs) p s.cs ((electE s.vs s.cs k).se.map Prod.fst) := by
          refine nodup_len (hcs.sublist List.filter_sublist) fun c hc => ?_
          obtain ⟨hc1, hc2⟩ := List.mem_filter.1 hc
          refine List.mem_filter.2 ⟨hc1, ?_⟩
          cases e : smB (posL s.vs) p c && decide (c ∈ (electE s.vs s.cs k).se.map Prod.fst)
          · exact absurd ⟨c, hc1, hc2, e⟩ h
          · rfl
        omega
    obtain ⟨c0, hc0, hev, hn⟩ := hex
    have hall : ∀ i ∈ Gp s.vs p, c0 ∈ pks s.vs i := fun i hi => by
      obtain ⟨j, hj, e⟩ := Gp_mem hi
      unfold evB at hev
      rw [List.all_eq_true] at hev
      have h1 := hev j (List.mem_range.2 (by rw [← pos_len]; exact (List.getElem?_eq_some_iff.1 e).1))
      rw [hj] at h1
      rw [← (st_pos e).2]
      simpa using h1
    have hsm : smB (posL s.vs) p c0 = true := by
      obtain ⟨i, l, e⟩ := List.exists_cons_of_ne_nil (l := Gp s.vs p) (fun e => by rw [e, sumL_nil] at hw; omega)
      have hi : i ∈ Gp s.vs p := by rw [e]; exact List.mem_cons_self ..
      obtain ⟨j, hj, e2⟩ := Gp_mem hi
      unfold smB
      rw [List.any_eq_true]
      refine ⟨j, List.mem_range.2 (by rw [← pos_len]; exact (List.getElem?_eq_some_iff.1 e2).1), ?_⟩
      rw [hj, (st_pos e2).2]
      simpa using hall i hi
    rw [hsm] at hn
    have hnc : c0 ∉ (electE s.vs s.cs k).se.map Prod.fst := by simpa using hn
    have hcnt : cntG s.vs (fun i => decide (i ∈ Gp s.vs p)) (electE s.vs s.cs k).se ≤ memN (posL s.vs) p s.cs ((electE s.vs s.cs k).se.map Prod.fst) := by
      obtain ⟨j, σ, hI, _, _⟩ := elect_inv hV s.cs k
      unfold cntG memN
      rw [← List.length_map Prod.fst]
      refine nodup_len (hI.nd.sublist (List.Sublist.map _ List.filter_sublist)) fun c hc => ?_
      obtain ⟨y, hy, rfl⟩ := List.mem_map.1 hc
      obtain ⟨hy1, hy2⟩ := List.mem_filter.1 hy
      refine List.mem_filter.2 ⟨(hI.sub y hy1).1, ?_⟩
      rw [Bool.and_eq_true]
      refine ⟨?_, decide_eq_true (List.mem_map_of_mem hy1)⟩
      obtain ⟨i, hi, hi2⟩ := List.any_eq_true.1 hy2
      obtain ⟨j', hj', e2⟩ := Gp_mem (of_decide_eq_true hi2)
      unfold smB
      rw [List.any_eq_true]
      refine ⟨j', List.mem_range.2 (by rw [← pos_len]; exact (List.getElem?_eq_some_iff.1 e2).1), ?_⟩
      rw [hj', (st_pos e2).2]
      simpa using (ap_mem.1 hi).2.2
    have hfin := fair_plain hV (cs := s.cs) (k := k) (r := r) (g := fun i => decide (i ∈ Gp s.vs p)) (c0 := c0) (fun i hi hg => by
      have hi2 : i ∈ Gp s.vs p := of_decide_eq_true hg
      exact ⟨of_decide_eq_true (List.mem_filter.1 ((Gp_sub s.vs p).subset hi2)).2, hall i hi2⟩) hc0 (fun y hy e => hnc (by rw [← e]; exact List.mem_map_of_mem hy)) (by rw [hgrp]; exact hw) (by omega) hr3 (by omega)
    rw [hgrp, sumL_take _ _ (Nat.le_refl _), List.take_length] at hfin
    exact hfin
  · have h0 := sumL_nonneg (f := st s.vs) (l := Gp s.vs p) (fun i _ => hV.s i)
    rw [show sumL (st s.vs) (Gp s.vs p) = 0 by omega, Int.zero_mul]
    exact Int.mul_pos hS0 (by omega)
end Go.Proofs.Wk
