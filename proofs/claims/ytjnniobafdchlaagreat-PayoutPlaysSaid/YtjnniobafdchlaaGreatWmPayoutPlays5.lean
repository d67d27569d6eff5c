/- Walks and their mathematics, merged. No conditions beyond those written. -/
import Derived.Test.YtjnniobafdchlaaGreatWmPayoutPlays4
/- The document's reward: New. -/
namespace Go.Proofs.Wk
open Go.RowKit
set_option maxRecDepth 100000
set_option maxHeartbeats 8000000
attribute [local irreducible] Pw OpG
set_option linter.unusedVariables false
set_option linter.unusedSimpArgs false
section
variable {P : Program} {w0 : World} {M O : Nat → Prop} {n : Nat} {K : Slots} {L : List Blk} {G : List (World → Prop)} {N : Act → World → Prop} {Q : Exit → Act → World → Prop} {ops : Array Oper}
  {d : Nat} {ty : TypeId} {pos : String} {af : Array Edge} {gd : Option (Nat × Bool)}
theorem build15_run {t e : TypeId} {v a1 a2 a3 a4 a5 z1 z2 z3 z4 z5 : Value} {f : TypeInfo} {z : Value} (ht : P.underlying t = some (.slice e)) (hf : P.info? e = some f) (h1 : f.size = 5) (hz : f.zero = some z) (hzc : z.cells = #[z1, z2, z3, z4, z5]) (hv : v.cells = #[a1, a2, a3, a4, a5]) (w : World) :
    (Instr.buildSlice t 1 #[(0, v)]).run P w = .ok (.slice (some ⟨w.heap.size, 0, none⟩) 1 1) (w.alloc (row [a1, a2, a3, a4, a5] e)) := by
  simp [Instr.buildSlice, underlying, ht, sizeOf, typeInfo, hf, h1, zeroValue, hz, hzc, Instr.fill, hv, newRow, show Array.range 5 = #[0, 1, 2, 3, 4] by decide]
theorem Pw.lit15 {t e : TypeId} {x : Operand} {v a1 a2 a3 a4 a5 z1 z2 z3 z4 z5 : Value} {f : TypeInfo} {z : Value} (hx : ev K x = some v) (ht : P.underlying t = some (.slice e)) (hf : P.info? e = some f) (h1 : f.size = 5) (hz : f.zero = some z) (hzc : z.cells = #[z1, z2, z3, z4, z5]) (hv : v.cells = #[a1, a2, a3, a4, a5]) (hw : wantB K ops gd = some true) (hn : Nat.blt d n = true)
    (h : ∀ g, Pw w0 M O n ((d, .slice (some ⟨g, 0, none⟩) 1 1) :: K) (⟨g, row [a1, a2, a3, a4, a5] e⟩ :: L) G N) : Pw w0 M O n K L G (OpG P ops ⟨some d, .buildSlice t 1 #[(0, x)], ty, pos, af, gd⟩ N Q) :=
  Pw.stepE hw rfl hn fun a w ha hs => ⟨_, _, _, _, by have := build15_run (P := P) ht hf h1 hz hzc hv w; simp [execOp, ha.eval hx, this], hs.new _, h _⟩
end
def DnA (ds : Ds) (W : World) : Prop := ∀ d ∈ ds, heldOn d.1 W
structure DRw where
  gr : Nat
  z : Option Addr × Nat
  ds : Ds
/-- An entry, «as» it is begun. -/
structure DnB (k : Nat) (x : Ex) (share : Int) (d : Dn × List Bool) : Prop where
  ex : d.1.x = x
  pg : d.1.pg.map Prod.fst = pagesS x k
  bu : d.1.bu = (bud1 k share x).1
  b : d.2 = List.replicate d.1.pg.length false
def DNewOk (k : Nat) (a : Int) (xs : List Ex) (ps : List Int) (i : Nat) (ds : Ds) : Prop := ds.length = i ∧ ∀ (j : Nat) (d : Dn × List Bool), ds[j]? = some d → ∃ x sh, xs[j]? = some x ∧ (shL a xs ps)[j]? = some sh ∧ DnB k x sh d
def rowK (pg : List Pg) (bud : List Int) : List PgD := pg.zip (bud.zip (List.replicate pg.length false))
theorem rowK_len {pg : List Pg} {bud : List Int} (h : bud.length = pg.length) : (rowK pg bud).length = pg.length := by unfold rowK; simp [h]
theorem rowK_get {pg : List Pg} {bud : List Int} {k : Nat} {p : Pg} {b : Int} (hp : pg[k]? = some p) (hb : bud[k]? = some b) : (rowK pg bud)[k]? = some (p, b, false) :=
  List.getElem?_zip_eq_some.2 ⟨hp, List.getElem?_zip_eq_some.2 ⟨hb, by rw [List.getElem?_replicate, if_pos (List.getElem?_eq_some_iff.1 hp).1]⟩⟩
theorem perm2X {a b : Blk} {X Y : List Blk} : (a :: b :: (X ++ Y)).Perm (X ++ (b :: a :: Y)) := (List.Perm.swap _ _ _).trans (by simpa using List.perm_append_comm_assoc [b, a] X Y)
theorem permEd {b : Blk} {X : List Blk} (d : Dn × List Bool) (ds : Ds) : (b :: (X ++ (dB d :: dL ds))).Perm (b :: (X ++ dL (ds ++ [d]))) := by
  refine List.Perm.cons _ (List.Perm.append_left _ ?_)
  show (dB d :: dL ds).Perm (List.map dB (ds ++ [d]))
  rw [List.map_append]
  exact (List.perm_append_comm (l₁ := [dB d]) (l₂ := dL ds))
theorem rNew_ct (a : Int) (xs : List Ex) (xz : Option Addr × Nat) (ps : List Int) (y : Option Addr × Nat) (size : Int) (ha : U64 a) (hX : XW xs) (hp : ∀ p ∈ ps, U64 p) (hs : size ≤ 9223372036854775807) :
    CtB Tryz.prog 8 #[.int .u64 a, xsV xs xz, sl ps y, .int .i64 size] [] (fun W => XS xs xz W ∧ U1 ps y W)
      (fun R : Option DRw => match R with | none => .tuple #[.pointer none, .int .i64 (newErr xs ps size)] | some R => .tuple #[.pointer (some ⟨R.gr, 0, none⟩), .int .i64 0])
      (fun R => match R with | none => newErr xs ps size ≠ 0 | some R => newErr xs ps size = 0 ∧ DNewOk size.toNat a xs ps xs.length R.ds)
      (fun R => match R with | none => [] | some R => dL R.ds)
      (fun R W => match R with | none => True | some R => drF R.gr R.z (leftTo size.toNat a xs ps xs.length) (R.ds.map Prod.fst) W) := by
  obtain ⟨A, c⟩ := xz
  obtain ⟨B, yc⟩ := y
  have hn := hX.n
  refine CtB.start Tryz.func8 rfl rfl (slots_of rfl slots4) (fun D w0 => Pw.facts (G' := [XS xs (A, c), U1 ps (B, yc)]) (fun w h => allCons (fact0 h).1 (allCons (fact0 h).2 allNil)) ?_)
  repeat (first | refine Pw.runs ?_ | refine Pw.list (Pw.box rfl rfl rfl rfl (fun _ => ?_)) | refine Pw.list (Pw.alloc rfl rfl rfl rfl rfl (fun _ => ?_)))
  refine Pw.split 35 rfl (fun c1 => ?_) (fun c1 => ?_)
  · have e : newErr xs ps size = 1 := if_pos (.inl c1)
    repeat (first | refine Pw.runs ?_ | refine Pw.list (Pw.box rfl rfl rfl rfl (fun _ => ?_)) | refine Pw.list (Pw.alloc rfl rfl rfl rfl rfl (fun _ => ?_)))
    exact Pw.retB (x := none) (List.nil_sublist _) (.tmp rfl (.tmp rfl .nil)) (by rw [e]; rfl) (by show newErr xs ps size ≠ 0; rw [e]; decide) (fun w h => trivial)
  repeat (first | refine Pw.runs ?_ | refine Pw.list (Pw.box rfl rfl rfl rfl (fun _ => ?_)) | refine Pw.list (Pw.alloc rfl rfl rfl rfl rfl (fun _ => ?_)))
  refine Pw.split 39 rfl (fun c2 => ?_) (fun c2 => ?_)
  · have e : newErr xs ps size = 1 := if_pos (.inr (.inl c2))
    repeat (first | refine Pw.runs ?_ | refine Pw.list (Pw.box rfl rfl rfl rfl (fun _ => ?_)) | refine Pw.list (Pw.alloc rfl rfl rfl rfl rfl (fun _ => ?_)))
    exact Pw.retB (x := none) (List.nil_sublist _) (.tmp rfl (.tmp rfl .nil)) (by rw [e]; rfl) (by show newErr xs ps size ≠ 0; rw [e]; decide) (fun w h => trivial)
  repeat (first | refine Pw.runs ?_ | refine Pw.list (Pw.box rfl rfl rfl rfl (fun _ => ?_)) | refine Pw.list (Pw.alloc rfl rfl rfl rfl rfl (fun _ => ?_)))
  refine Pw.condD rfl (fun c3 => ?_) (fun c3 => ?_)
  · have e : newErr xs ps size = 1 := if_pos (.inr (.inr (.inl (by omega))))
    repeat (first | refine Pw.runs ?_ | refine Pw.list (Pw.box rfl rfl rfl rfl (fun _ => ?_)) | refine Pw.list (Pw.alloc rfl rfl rfl rfl rfl (fun _ => ?_)))
    exact Pw.retB (x := none) (List.nil_sublist _) (.tmp rfl (.tmp rfl .nil)) (by rw [e]; rfl) (by show newErr xs ps size ≠ 0; rw [e]; decide) (fun w h => trivial)
  have hpl : ps.length = xs.length := by omega
  have hk0 : 0 < size.toNat := by omega
  repeat (first | refine Pw.runs ?_ | refine Pw.list (Pw.box rfl rfl rfl rfl (fun _ => ?_)) | refine Pw.list (Pw.alloc rfl rfl rfl rfl rfl (fun _ => ?_)))
  refine Pw.loopJ (σ := Nat) (fun i => i ≤ xs.length ∧ okX (xs.take i) = true) (fun i => ⟨[(0, .int .u64 a), (1, .slice A xs.length c), (2, sl ps (B, yc)), (3, .int .i64 size), (47, .int .i64 xs.length), (48, .int .i64 i)], [], [XS xs (A, c), U1 ps (B, yc)]⟩) (fun i => xs.length - i) 0 ⟨Nat.zero_le _, rfl⟩ (Pw.enter ⟨rfl, rfl, rfl, rfl, rfl, rfl, trivial⟩ (fun w h => h)) ?_
  rintro i ⟨hi, hok⟩
  dsimp only at hi hok ⊢
  repeat (first | refine Pw.runs ?_ | refine Pw.list (Pw.box rfl rfl rfl rfl (fun _ => ?_)) | refine Pw.list (Pw.alloc rfl rfl rfl rfl rfl (fun _ => ?_)))
  refine Pw.condD rfl (fun c4 => ?_) (fun c4 => ?_)
  · have hi0 : (0 : Int) ≤ (i : Int) := Int.natCast_nonneg i
    obtain ⟨x, hx, hxm⟩ := get_at (show i < xs.length by omega)
    repeat (first | refine Pw.runs ?_ | refine Pw.list (Pw.box rfl rfl rfl rfl (fun _ => ?_)) | refine Pw.list (Pw.alloc rfl rfl rfl rfl rfl (fun _ => ?_)))
    refine Pw.list (Pw.index rfl rfl rfl rfl hi0 c4 (fun w h => (fact0 h).has hi0 c4) rfl rfl ?_)
    rintro ad rfl
    refine Pw.list (Pw.loadR x rfl inferInstance rfl (by rw [Int.toNat_natCast]; exact hx) (by kernel_rfl) rfl rfl ?_)
    refine Pw.re (d := 54) (v' := exV x) rfl rfl ?_
    refine Pw.list (Pw.call (xFormed_ct x) rfl rfl rfl (by kernel_rfl) rfl rfl (fun w h => (hv w h : heldX x w)) ?_)
    intro _ _
    cases hfx : formX x
    · have e : newErr xs ps size = 1 := if_pos (.inr (.inr (.inr (okX_no hx (.inl hfx)))))
      repeat (first | refine Pw.runs ?_ | refine Pw.list (Pw.box rfl rfl rfl rfl (fun _ => ?_)) | refine Pw.list (Pw.alloc rfl rfl rfl rfl rfl (fun _ => ?_)))
      exact Pw.retB (x := none) (List.nil_sublist _) (.tmp rfl (.tmp rfl .nil)) (by rw [e]; rfl) (by show newErr xs ps size ≠ 0; rw [e]; decide) (fun w h => trivial)
    repeat (first | refine Pw.runs ?_ | refine Pw.list (Pw.box rfl rfl rfl rfl (fun _ => ?_)) | refine Pw.list (Pw.alloc rfl rfl rfl rfl rfl (fun _ => ?_)))
    refine Pw.facts (G' := [XS xs (some ad, c), U1 ps (B, yc)]) (fun w h => allCons (hv w h) (allCons (hv w h) allNil)) ?_
    refine Pw.loopJ (σ := Nat) (fun k => k ≤ i ∧ x.id ∉ (xs.take k).map Ex.id) (fun k => ⟨[(0, .int .u64 a), (1, .slice (some ad) xs.length c), (2, sl ps (B, yc)), (3, .int .i64 size), (10, .int .i64 i), (47, .int .i64 xs.length), (48, .int .i64 i), (57, .int .i64 i), (58, .int .i64 k)], [], [XS xs (some ad, c), U1 ps (B, yc)]⟩) (fun k => i - k) 0 ⟨Nat.zero_le _, by simp⟩ (Pw.enter ⟨rfl, rfl, rfl, rfl, rfl, rfl, rfl, rfl, rfl, trivial⟩ (fun w h => h)) ?_
    rintro k ⟨hk, hkn⟩
    dsimp only at hk hkn ⊢
    repeat (first | refine Pw.runs ?_ | refine Pw.list (Pw.box rfl rfl rfl rfl (fun _ => ?_)) | refine Pw.list (Pw.alloc rfl rfl rfl rfl rfl (fun _ => ?_)))
    refine Pw.condD rfl (fun c5 => ?_) (fun c5 => ?_)
    · have hk00 : (0 : Int) ≤ (k : Int) := Int.natCast_nonneg k
      have hk1 : (k : Int) < ((xs.length : Nat) : Int) := by omega
      obtain ⟨r, hr, hrm⟩ := get_at (show k < xs.length by omega)
      repeat (first | refine Pw.runs ?_ | refine Pw.list (Pw.box rfl rfl rfl rfl (fun _ => ?_)) | refine Pw.list (Pw.alloc rfl rfl rfl rfl rfl (fun _ => ?_)))
      refine Pw.drawnG mixed rfl rfl ?_
      refine Pw.takeP 0 (nb 11 1) rfl rfl rfl rfl (by kernel_rfl) np sf ?_
      refine Pw.takeP 1 (nb 11 3) rfl rfl rfl rfl (by kernel_rfl) np sf ?_
      refine Pw.takeIx 2 (nb 11 7) rfl rfl rfl rfl rfl (by first | assumption | omega) (by first | assumption | omega) rfl rfl (by kernel_rfl) np sf ?_
      refine Pw.takeFS 3 (nb 11 15) rfl rfl rfl rfl rfl rfl rfl rfl (by kernel_rfl) np sf ?_
      refine Pw.takeLF r 4 (nb 11 31) rfl rfl inferInstance rfl (by first | assumption | (rw [Int.toNat_natCast]; assumption)) rfl rfl rfl rfl (by kernel_rfl) np sf ?_
      refine Pw.takeP 5 (nb 11 63) rfl rfl rfl rfl (by kernel_rfl) np sf ?_
      refine Pw.takeP 6 (nb 11 127) rfl rfl rfl rfl (by kernel_rfl) np sf ?_
      refine Pw.takeIx 7 (nb 11 255) rfl rfl rfl rfl rfl (by first | assumption | omega) (by first | assumption | omega) rfl rfl (by kernel_rfl) np sf ?_
      refine Pw.takeFS 8 (nb 11 511) rfl rfl rfl rfl rfl rfl rfl rfl (by kernel_rfl) np sf ?_
      refine Pw.takeLF x 9 (nb 11 1023) rfl rfl inferInstance rfl (by first | assumption | (rw [Int.toNat_natCast]; assumption)) rfl rfl rfl rfl (by kernel_rfl) np sf ?_
      refine Pw.takeP 10 (nb 11 2047) rfl rfl rfl rfl (by kernel_rfl) np sf ?_
      refine Pw.done (by kernel_rfl) ?_
      refine Pw.condD rfl (fun c6 => ?_) (fun c6 => ?_)
      · have e : newErr xs ps size = 1 := if_pos (.inr (.inr (.inr (okX_no hx (.inr (by rw [← c6]; exact List.mem_map_of_mem (List.mem_of_getElem? (i := k) (by rw [List.getElem?_take, if_pos (by omega)]; exact hr))))))))
        repeat (first | refine Pw.runs ?_ | refine Pw.list (Pw.box rfl rfl rfl rfl (fun _ => ?_)) | refine Pw.list (Pw.alloc rfl rfl rfl rfl rfl (fun _ => ?_)))
        exact Pw.retB (x := none) (List.nil_sublist _) (.tmp rfl (.tmp rfl .nil)) (by rw [e]; rfl) (by show newErr xs ps size ≠ 0; rw [e]; decide) (fun w h => trivial)
      repeat (first | refine Pw.runs ?_ | refine Pw.list (Pw.box rfl rfl rfl rfl (fun _ => ?_)) | refine Pw.list (Pw.alloc rfl rfl rfl rfl rfl (fun _ => ?_)))
      refine Pw.re (d := 58) (v' := .int .i64 ((k + 1 : Nat) : Int)) rfl (congrArg (Value.int .i64) (i64s (n := 1000000) (by omega) (by omega))) ?_
      exact Pw.again (k + 1) ⟨by omega, by
        rw [take_snoc hr, List.map_append, List.mem_append]
        rintro (h | h)
        · exact hkn h
        · exact c6 (List.mem_singleton.1 h).symm⟩ (by show i - (k + 1) < i - k; omega) ⟨rfl, rfl, rfl, rfl, rfl, rfl, rfl, rfl, rfl, trivial⟩ rfl (fun w h => h)
    · obtain rfl : k = i := by omega
      repeat (first | refine Pw.runs ?_ | refine Pw.list (Pw.box rfl rfl rfl rfl (fun _ => ?_)) | refine Pw.list (Pw.alloc rfl rfl rfl rfl rfl (fun _ => ?_)))
      refine Pw.re (d := 48) (v' := .int .i64 ((k + 1 : Nat) : Int)) rfl (congrArg (Value.int .i64) (i64s (n := 1000000) (by omega) (by omega))) ?_
      exact Pw.again (k + 1) ⟨by omega, okX_snoc hx hok hfx hkn⟩ (by show xs.length - (k + 1) < xs.length - k; omega) ⟨rfl, rfl, rfl, rfl, rfl, rfl, trivial⟩ rfl (fun w h => h)
  obtain rfl : i = xs.length := by omega
  rw [List.take_length] at hok
  repeat (first | refine Pw.runs ?_ | refine Pw.list (Pw.box rfl rfl rfl rfl (fun _ => ?_)) | refine Pw.list (Pw.alloc rfl rfl rfl rfl rfl (fun _ => ?_)))
  refine Pw.loopJ (σ := Nat × Gr) (fun t => t.1 ≤ xs.length ∧ totOk (xs.take t.1) = true ∧ gOk t.2 ((cntL (xs.take t.1) (ps.take t.1)).map (Value.int .u64)) t.1 1) (fun t => ⟨[(0, .int .u64 a), (1, .slice A xs.length c), (2, sl ps (B, yc)), (3, .int .i64 size), (12, gv t.2 t.1), (75, .int .i64 xs.length), (76, .int .i64 t.1)], gL1 t.2 ((cntL (xs.take t.1) (ps.take t.1)).map (Value.int .u64)) 22, [XS xs (A, c), U1 ps (B, yc)]⟩) (fun t => xs.length - t.1) (0, none) ⟨Nat.zero_le _, rfl, rfl, rfl⟩ (Pw.enter ⟨rfl, rfl, rfl, rfl, rfl, rfl, rfl, trivial⟩ (fun w h => h)) ?_
  rintro ⟨i, q⟩ ⟨hi, ht, hq⟩
  dsimp only at hi ht hq ⊢
  repeat (first | refine Pw.runs ?_ | refine Pw.list (Pw.box rfl rfl rfl rfl (fun _ => ?_)) | refine Pw.list (Pw.alloc rfl rfl rfl rfl rfl (fun _ => ?_)))
  refine Pw.condD rfl (fun c4 => ?_) (fun c4 => ?_)
  · have hi0 : (0 : Int) ≤ (i : Int) := Int.natCast_nonneg i
    have c5 : (i : Int) < ((ps.length : Nat) : Int) := by omega
    obtain ⟨x, hx, hxm⟩ := get_at (show i < xs.length by omega)
    obtain ⟨p, hpi, hpm⟩ := get_at (show i < ps.length by omega)
    have hsn := cntL_snoc hx hpi
    have htt : totOk (xs.take (i + 1)) = (totOk (xs.take i) && decide ((totX x).2 = 0)) := by unfold totOk; rw [take_snoc hx, List.all_append]; simp
    rw [ht, Bool.true_and] at htt
    refine Pw.use (p := B.isSome = true) (fun w h => (fact1 h).has hi0 c5) (fun hA => ?_)
    obtain ⟨bd, rfl⟩ := Option.isSome_iff_exists.1 hA
    repeat (first | refine Pw.runs ?_ | refine Pw.list (Pw.box rfl rfl rfl rfl (fun _ => ?_)) | refine Pw.list (Pw.alloc rfl rfl rfl rfl rfl (fun _ => ?_)))
    refine Pw.list (Pw.index rfl rfl rfl rfl hi0 c4 (fun w h => (fact0 h).has hi0 c4) rfl rfl ?_)
    rintro ad rfl
    refine Pw.list (Pw.loadR x rfl inferInstance rfl (by rw [Int.toNat_natCast]; exact hx) (by kernel_rfl) rfl rfl ?_)
    refine Pw.re (d := 83) (v' := exV x) rfl rfl ?_
    refine Pw.list (Pw.call (rTotal_ct x (hX.w x hxm) (by have := hX.l x hxm; omega)) rfl rfl rfl (by kernel_rfl) rfl rfl (fun w h => (hv w h : heldX x w)) ?_)
    intro _ _
    rcases tot_err x with he | he
    · rw [he] at htt ⊢
      repeat (first | refine Pw.runs ?_ | refine Pw.list (Pw.box rfl rfl rfl rfl (fun _ => ?_)) | refine Pw.list (Pw.alloc rfl rfl rfl rfl rfl (fun _ => ?_)))
      refine Pw.joinQ (σ := Gr) (fun q' => gOk q' ((cntL (xs.take (i + 1)) (ps.take (i + 1))).map (Value.int .u64)) (i + 1) 1) (fun q' => ⟨[(0, .int .u64 a), (1, .slice (some ad) xs.length c), (2, sl ps (some bd, yc)), (3, .int .i64 size), (12, gv q' (i + 1)), (75, .int .i64 xs.length), (76, .int .i64 i)], gL1 q' ((cntL (xs.take (i + 1)) (ps.take (i + 1))).map (Value.int .u64)) 22, [XS xs (some ad, c), U1 ps (some bd, yc)]⟩) ?_ ?_
      · refine Pw.condD rfl (fun c6 => ?_) (fun c6 => ?_)
        · have hc1 : cnt1 x p = 0 := by unfold cnt1; rw [if_pos c6]
          repeat (first | refine Pw.runs ?_ | refine Pw.list (Pw.box rfl rfl rfl rfl (fun _ => ?_)) | refine Pw.list (Pw.alloc rfl rfl rfl rfl rfl (fun _ => ?_)))
          refine Pw.list (Pw.lit1 rfl rfl rfl rfl rfl rfl rfl rfl rfl (fun g2 => ?_))
          refine freeHead ?_
          refine Pw.list (Pw.push (s := q) (news := [.int .u64 0]) rfl rfl rfl rfl rfl rfl rfl hq rfl (fun u hu => by rw [List.mem_singleton.1 hu]; rfl) (fun w hs j u hu => by
            have h1 : w.heap[g2]? = some (row [.int .u64 0] 22) := fact0 hs.all
            rw [add_none, cell_of_blk h1]
            simpa using hu) (by omega) (by simp only [maxLen]; omega) (by show (i + 1) * 8 ≤ _; omega) rfl rfl (fun q' hq' => ?_))
          have e4 : (cntL (xs.take i) (ps.take i)).map (Value.int .u64) ++ [.int .u64 0] = (cntL (xs.take (i + 1)) (ps.take (i + 1))).map (Value.int .u64) := by rw [hsn, hc1]; simp
          rw [e4] at hq' ⊢
          repeat (first | refine Pw.runs ?_ | refine Pw.list (Pw.box rfl rfl rfl rfl (fun _ => ?_)) | refine Pw.list (Pw.alloc rfl rfl rfl rfl rfl (fun _ => ?_)))
          exact Pw.arrive q' hq' ⟨rfl, rfl, rfl, rfl, rfl, rfl, rfl, trivial⟩ rfl (fun w h => allCons (hv w h) (allCons (hv w h) allNil))
        · have hc1 : cnt1 x p = p := by unfold cnt1; rw [if_neg c6]
          repeat (first | refine Pw.runs ?_ | refine Pw.list (Pw.box rfl rfl rfl rfl (fun _ => ?_)) | refine Pw.list (Pw.alloc rfl rfl rfl rfl rfl (fun _ => ?_)))
          refine Pw.list (Pw.indexS rfl rfl rfl rfl hi0 c5 rfl rfl ?_)
          refine Pw.list (Pw.load1 rfl rfl (fun w hs => (hv w hs.all : U1 ps (some bd, yc) w).cell hi0 c5) rfl rfl ?_)
          rw [get_rd hpi]
          refine Pw.list (Pw.lit1 rfl rfl rfl rfl rfl rfl rfl rfl rfl (fun g2 => ?_))
          refine freeHead ?_
          refine Pw.list (Pw.push (s := q) (news := [.int .u64 p]) rfl rfl rfl rfl rfl rfl rfl hq rfl (fun u hu => by rw [List.mem_singleton.1 hu]; rfl) (fun w hs j u hu => by
            have h1 : w.heap[g2]? = some (row [.int .u64 p] 22) := fact0 hs.all
            rw [add_none, cell_of_blk h1]
            simpa using hu) (by omega) (by simp only [maxLen]; omega) (by show (i + 1) * 8 ≤ _; omega) rfl rfl (fun q' hq' => ?_))
          have e4 : (cntL (xs.take i) (ps.take i)).map (Value.int .u64) ++ [.int .u64 p] = (cntL (xs.take (i + 1)) (ps.take (i + 1))).map (Value.int .u64) := by rw [hsn, hc1]; simp
          rw [e4] at hq' ⊢
          repeat (first | refine Pw.runs ?_ | refine Pw.list (Pw.box rfl rfl rfl rfl (fun _ => ?_)) | refine Pw.list (Pw.alloc rfl rfl rfl rfl rfl (fun _ => ?_)))
          exact Pw.arrive q' hq' ⟨rfl, rfl, rfl, rfl, rfl, rfl, rfl, trivial⟩ rfl (fun w h => allCons (hv w h) (allCons (hv w h) allNil))
      intro q' hq'
      dsimp only
      repeat (first | refine Pw.runs ?_ | refine Pw.list (Pw.box rfl rfl rfl rfl (fun _ => ?_)) | refine Pw.list (Pw.alloc rfl rfl rfl rfl rfl (fun _ => ?_)))
      refine Pw.re (d := 76) (v' := .int .i64 ((i + 1 : Nat) : Int)) rfl (congrArg (Value.int .i64) (i64s (n := 1000000) (by omega) (by omega))) ?_
      exact Pw.again (i + 1, q') ⟨by show i + 1 ≤ xs.length; omega, by rw [htt]; rfl, hq'⟩ (by show xs.length - (i + 1) < xs.length - i; omega) ⟨rfl, rfl, rfl, rfl, rfl, rfl, rfl, trivial⟩ rfl (fun w h => h)
    · have hno : totOk xs = false := by
        unfold totOk
        rw [List.all_eq_false]
        exact ⟨x, hxm, by rw [he]; decide⟩
      have e : newErr xs ps size = 3 := by
        unfold newErr
        rw [if_neg (by simp only [not_or]; exact ⟨c1, c2, by omega, by rw [hok]; decide⟩), if_neg (by rw [hno]; decide)]
      rw [he]
      repeat (first | refine Pw.runs ?_ | refine Pw.list (Pw.box rfl rfl rfl rfl (fun _ => ?_)) | refine Pw.list (Pw.alloc rfl rfl rfl rfl rfl (fun _ => ?_)))
      exact Pw.retB (x := none) (List.nil_sublist _) (.tmp rfl (.tmp rfl .nil)) (by rw [e]; rfl) (by show newErr xs ps size ≠ 0; rw [e]; decide) (fun w h => trivial)
  obtain rfl : i = xs.length := by omega
  rw [List.take_length] at ht
  have e5 : cntL (xs.take xs.length) (ps.take xs.length) = cntL xs ps := by rw [List.take_length, ← hpl, List.take_length]
  have hcl := cntL_len hpl
  rw [e5] at hq ⊢
  refine Pw.freeG hq (fun Ac cc ee hc => ?_)
  refine Pw.re (d := 12) (v' := sl (cntL xs ps) (Ac, cc)) rfl (by rw [ee]; show Value.slice Ac xs.length cc = .slice Ac (cntL xs ps).length cc; rw [hcl]) ?_
  refine Pw.facts (G' := [U1 (cntL xs ps) (Ac, cc), XS xs (A, c), U1 ps (B, yc)]) (fun w h => allCons (ints_of_cells (by rw [hcl]; exact hc) (by rw [hcl]; simp only [maxLen]; omega) (fact0 h)) (allCons (hv w h) (allCons (hv w h) allNil))) ?_
  have hnE : newErr xs ps size = (sumM ps).2 := by
    unfold newErr
    rw [if_neg (by simp only [not_or]; exact ⟨c1, c2, by omega, by rw [hok]; decide⟩), if_pos ht]
  repeat (first | refine Pw.runs ?_ | refine Pw.list (Pw.box rfl rfl rfl rfl (fun _ => ?_)) | refine Pw.list (Pw.alloc rfl rfl rfl rfl rfl (fun _ => ?_)))
  refine Pw.list (Pw.call (rSum_ct ps (B, yc) hp) rfl rfl rfl (by kernel_rfl) rfl rfl (fun w h => (hv w h)) ?_)
  intro _ _
  repeat (first | refine Pw.runs ?_ | refine Pw.list (Pw.box rfl rfl rfl rfl (fun _ => ?_)) | refine Pw.list (Pw.alloc rfl rfl rfl rfl rfl (fun _ => ?_)))
  refine Pw.condD rfl (fun c6 => ?_) (fun c6 => ?_)
  · repeat (first | refine Pw.runs ?_ | refine Pw.list (Pw.box rfl rfl rfl rfl (fun _ => ?_)) | refine Pw.list (Pw.alloc rfl rfl rfl rfl rfl (fun _ => ?_)))
    exact Pw.retB (x := none) (List.nil_sublist _) (.tmp rfl (.tmp rfl .nil)) (by rw [hnE]; rfl) (by show newErr xs ps size ≠ 0; rw [hnE]; exact c6) (fun w h => trivial)
  have hE0 : newErr xs ps size = 0 := by rw [hnE]; omega
  repeat (first | refine Pw.runs ?_ | refine Pw.list (Pw.box rfl rfl rfl rfl (fun _ => ?_)) | refine Pw.list (Pw.alloc rfl rfl rfl rfl rfl (fun _ => ?_)))
  rename_i gr
  obtain ⟨s1, s2, s3, s4⟩ := spF_sum ha (cntL_u (xs := xs) hp)
  have hsl : (shL a xs ps).length = xs.length := by unfold shL; rw [spF_len, hcl]
  by_cases hS : 0 < lsum (cntL xs ps) ∧ lsum (cntL xs ps) ≤ 18446744073709551615
  · have eS : spF a (cntL xs ps) = (spL a (cntL xs ps), a - lsum (spL a (cntL xs ps))) := if_pos hS
    refine Pw.list (Pw.call (tSplitOk_ct a (cntL xs ps) (Ac, cc) ha (cntL_u hp) (by omega) hS.1 hS.2) rfl rfl rfl (by kernel_rfl) rfl rfl (fun w h => (hv w h)) ?_)
    intro zA _
    rw [show spL a (cntL xs ps) = shL a xs ps by unfold shL; rw [eS], show a - lsum (shL a xs ps) = (spF a (cntL xs ps)).2 by unfold shL; rw [eS]]
    repeat (first | refine Pw.runs ?_ | refine Pw.list (Pw.box rfl rfl rfl rfl (fun _ => ?_)) | refine Pw.list (Pw.alloc rfl rfl rfl rfl rfl (fun _ => ?_)))
    refine Pw.eqL (L' := [⟨gr, row [.slice none 0 0, .int .u64 (leftTo size.toNat a xs ps 0)] 54⟩]) (by rw [show leftTo size.toNat a xs ps 0 = (spF a (cntL xs ps)).2 by unfold leftTo; rw [List.take_zero]; exact Int.add_zero _]; try rfl) ?_
    refine Pw.loopJ (σ := Nat × Gr × Ds) (fun t => t.1 ≤ xs.length ∧ DNewOk size.toNat a xs ps t.1 t.2.2 ∧ gOk t.2.1 ((t.2.2.map Prod.fst).flatMap encOn) t.1 5) (fun t => ⟨[(1, .slice A xs.length c), (3, .int .i64 size), (18, .pointer (some ⟨gr, 0, none⟩)), (19, sl (shL a xs ps) zA), (131, .int .i64 xs.length), (132, .int .i64 t.1)], ⟨gr, row [gv t.2.1 t.1, .int .u64 (leftTo size.toNat a xs ps t.1)] 54⟩ :: (gL t.2.1 ((t.2.2.map Prod.fst).flatMap encOn) 86 ++ dL t.2.2), [DnA t.2.2, U1 (shL a xs ps) zA, XS xs (A, c)]⟩) (fun t => xs.length - t.1) (0, none, []) ⟨Nat.zero_le _, ⟨rfl, fun j d h => by cases h⟩, rfl, rfl⟩ (by
      intro X h
      dsimp only at h
      refine Pw.enter ?_ ?_ X h
      · exact ⟨rfl, rfl, rfl, rfl, rfl, rfl, trivial⟩
      · exact fun w h => allCons (fun d hd => by cases hd) (allCons (hv w h) (allCons (hv w h) allNil))) ?_
    rintro ⟨i, ql, ds⟩ ⟨hi, hds, hql⟩
    dsimp only at hi hds hql ⊢
    repeat (first | refine Pw.runs ?_ | refine Pw.list (Pw.box rfl rfl rfl rfl (fun _ => ?_)) | refine Pw.list (Pw.alloc rfl rfl rfl rfl rfl (fun _ => ?_)))
    refine Pw.condD rfl (fun c7 => ?_) (fun c7 => ?_)
    · have hi0 : (0 : Int) ≤ (i : Int) := Int.natCast_nonneg i
      obtain ⟨x, hx, hxm⟩ := get_at (show i < xs.length by omega)
      obtain ⟨sh, hsh, hshm⟩ := get_at (show i < (shL a xs ps).length by omega)
      obtain ⟨hsu, hsa⟩ := s2 sh hshm
      have hxW := hX.w x hxm
      have hxl := hX.l x hxm
      have hpr : pagesR x size = (pagesS x size.toNat, 0) := by
        have hxf := (okX_ok hok).1 x hxm
        have hxt : (totX x).2 = 0 := by
          unfold totOk at ht
          rw [List.all_eq_true] at ht
          exact of_decide_eq_true (ht x hxm)
        unfold pagesR
        rw [if_neg (fun h => h.elim c1 (fun h => by rw [hxf] at h; cases h)), if_neg (by rw [hxt]; exact fun h => h rfl)]
      have hpc := rPages_ct x hxW hxl size hs
      rw [hpr] at hpc
      have hpgl := pages_le (x := x) hk0
      repeat (first | refine Pw.runs ?_ | refine Pw.list (Pw.box rfl rfl rfl rfl (fun _ => ?_)) | refine Pw.list (Pw.alloc rfl rfl rfl rfl rfl (fun _ => ?_)))
      refine Pw.list (Pw.index rfl rfl rfl rfl hi0 c7 (fun w h => (hv w h : XS xs (A, c) w).has hi0 c7) rfl rfl ?_)
      rintro ad rfl
      refine Pw.list (Pw.loadR x rfl inferInstance rfl (by rw [Int.toNat_natCast]; exact hx) (by kernel_rfl) rfl rfl ?_)
      refine Pw.re (d := 139) (v' := exV x) rfl rfl ?_
      repeat (first | refine Pw.runs ?_ | refine Pw.list (Pw.box rfl rfl rfl rfl (fun _ => ?_)) | refine Pw.list (Pw.alloc rfl rfl rfl rfl rfl (fun _ => ?_)))
      refine Pw.list (Pw.call hpc rfl rfl rfl (by kernel_rfl) rfl rfl (fun w h => (hv w h : heldX x w)) ?_)
      rintro ⟨pg, ⟨Ap, cp⟩⟩ hpg
      dsimp only at hpg ⊢
      have hpl2 : (pagesS x size.toNat).length = pg.length := by rw [← hpg, List.length_map]
      rw [hpl2] at hpgl ⊢
      repeat (first | refine Pw.runs ?_ | refine Pw.list (Pw.box rfl rfl rfl rfl (fun _ => ?_)) | refine Pw.list (Pw.alloc rfl rfl rfl rfl rfl (fun _ => ?_)))
      refine Pw.list (Pw.indexS rfl rfl rfl rfl hi0 c7 rfl rfl ?_)
      refine Pw.list (Pw.loadR x rfl inferInstance rfl (by rw [Int.toNat_natCast]; exact hx) (by kernel_rfl) rfl rfl ?_)
      refine Pw.re (d := 147) (v' := exV x) rfl rfl ?_
      repeat (first | refine Pw.runs ?_ | refine Pw.list (Pw.box rfl rfl rfl rfl (fun _ => ?_)) | refine Pw.list (Pw.alloc rfl rfl rfl rfl rfl (fun _ => ?_)))
      rename_i g24
      refine Pw.eqL (L' := ⟨g24, row [.int .i64 x.id, .int .u64 x.com, .int .u64 x.own, psV x.oth x.z, .slice none 0 0] 86⟩ :: ⟨gr, row [gv ql i, .int .u64 (leftTo size.toNat a xs ps i)] 54⟩ :: (gL ql ((ds.map Prod.fst).flatMap encOn) 86 ++ dL ds)) rfl ?_
      have htl : (tots x size.toNat).length = pg.length := by show (List.map _ _).length = _; rw [List.length_map, hpl2]
      refine Pw.loopJ (σ := Nat × Gr) (fun t => t.1 ≤ pg.length ∧ gOk t.2 (((tots x size.toNat).take t.1).map (Value.int .u64)) t.1 1) (fun t => ⟨[(1, .slice (some ad) xs.length c), (3, .int .i64 size), (18, .pointer (some ⟨gr, 0, none⟩)), (19, sl (shL a xs ps) zA), (21, .int .i64 i), (22, .slice Ap pg.length cp), (24, .pointer (some ⟨g24, 0, none⟩)), (25, gv t.2 t.1), (131, .int .i64 xs.length), (132, .int .i64 i), (150, .int .i64 pg.length), (151, .int .i64 t.1)], gL t.2 (((tots x size.toNat).take t.1).map (Value.int .u64)) 22 ++ (⟨g24, row [.int .i64 x.id, .int .u64 x.com, .int .u64 x.own, psV x.oth x.z, .slice none 0 0] 86⟩ :: ⟨gr, row [gv ql i, .int .u64 (leftTo size.toNat a xs ps i)] 54⟩ :: (gL ql ((ds.map Prod.fst).flatMap encOn) 86 ++ dL ds)), [PGS pg (Ap, cp), DnA ds, U1 (shL a xs ps) zA, XS xs (some ad, c)]⟩) (fun t => pg.length - t.1) (0, none) ⟨Nat.zero_le _, rfl, rfl⟩ (by
        intro X h
        dsimp only at h
        refine Pw.enter ?_ ?_ X h
        · exact ⟨rfl, rfl, rfl, rfl, rfl, rfl, rfl, rfl, rfl, rfl, rfl, rfl, trivial⟩
        · exact fun w h => allCons (hv w h) (allCons (hv w h) (allCons (hv w h) (allCons (hv w h) allNil)))) ?_
      rintro ⟨j, q⟩ ⟨hj, hqq⟩
      dsimp only at hj hqq ⊢
      repeat (first | refine Pw.runs ?_ | refine Pw.list (Pw.box rfl rfl rfl rfl (fun _ => ?_)) | refine Pw.list (Pw.alloc rfl rfl rfl rfl rfl (fun _ => ?_)))
      refine Pw.condD rfl (fun c8 => ?_) (fun c8 => ?_)
      · have hj0 : (0 : Int) ≤ (j : Int) := Int.natCast_nonneg j
        obtain ⟨⟨pp, Az, cz⟩, hpj, hpjm⟩ := get_at (show j < pg.length by omega)
        have hpS : (pagesS x size.toNat)[j]? = some pp := by rw [← hpg, List.getElem?_map, hpj]; rfl
        have hpm : pp ∈ pagesS x size.toNat := List.mem_of_getElem? hpS
        have hpu := stk_u hxW (k := size.toNat) pp hpm
        have hpn := page_le pp hpm
        have htj : (tots x size.toNat)[j]? = some (sumM (stk pp)).1 := by show (List.map _ _)[j]? = _; rw [List.getElem?_map, hpS]; rfl
        repeat (first | refine Pw.runs ?_ | refine Pw.list (Pw.box rfl rfl rfl rfl (fun _ => ?_)) | refine Pw.list (Pw.alloc rfl rfl rfl rfl rfl (fun _ => ?_)))
        refine Pw.list (Pw.index rfl rfl rfl rfl hj0 c8 (fun w h => (hv w h : PGS pg (Ap, cp) w).has hj0 c8) rfl rfl ?_)
        rintro pd rfl
        refine Pw.list (Pw.loadC (pp, Az, cz) rfl inferInstance rfl (by rw [Int.toNat_natCast]; exact hpj) rfl rfl rfl rfl ?_)
        repeat (first | refine Pw.runs ?_ | refine Pw.list (Pw.box rfl rfl rfl rfl (fun _ => ?_)) | refine Pw.list (Pw.alloc rfl rfl rfl rfl rfl (fun _ => ?_)))
        refine Pw.list (Pw.call (rtotal_ct pp (Az, cz) (by omega) hpu) rfl rfl rfl (by kernel_rfl) rfl rfl (fun w h => ((hv w h : PGS pg (some pd, cp) w).at hpj).2.1) ?_)
        intro _ _
        repeat (first | refine Pw.runs ?_ | refine Pw.list (Pw.box rfl rfl rfl rfl (fun _ => ?_)) | refine Pw.list (Pw.alloc rfl rfl rfl rfl rfl (fun _ => ?_)))
        refine Pw.list (Pw.lit1 rfl rfl rfl rfl rfl rfl rfl rfl rfl (fun g2 => ?_))
        refine freeHead ?_
        refine Pw.list (Pw.push (s := q) (news := [.int .u64 (sumM (stk pp)).1]) rfl rfl rfl rfl rfl rfl rfl hqq rfl (fun u hu => by rw [List.mem_singleton.1 hu]; rfl) (fun w hs j u hu => by
          have h1 : w.heap[g2]? = some (row [.int .u64 (sumM (stk pp)).1] 22) := fact0 hs.all
          rw [add_none, cell_of_blk h1]
          simpa using hu) (by omega) (by simp only [maxLen]; omega) (by show (j + 1) * 8 ≤ _; omega) rfl rfl (fun q' hq' => ?_))
        have e4 : ((tots x size.toNat).take j).map (Value.int .u64) ++ [.int .u64 (sumM (stk pp)).1] = ((tots x size.toNat).take (j + 1)).map (Value.int .u64) := by rw [take_snoc htj]; simp
        rw [e4] at hq' ⊢
        repeat (first | refine Pw.runs ?_ | refine Pw.list (Pw.box rfl rfl rfl rfl (fun _ => ?_)) | refine Pw.list (Pw.alloc rfl rfl rfl rfl rfl (fun _ => ?_)))
        refine Pw.re (d := 151) (v' := .int .i64 ((j + 1 : Nat) : Int)) rfl (congrArg (Value.int .i64) (i64s (n := 1000000) (by omega) (by omega))) ?_
        exact Pw.again (j + 1, q') ⟨by show j + 1 ≤ pg.length; omega, hq'⟩ (by show pg.length - (j + 1) < pg.length - j; omega) ⟨rfl, rfl, rfl, rfl, rfl, rfl, rfl, rfl, rfl, rfl, rfl, rfl, trivial⟩ rfl (fun w h => allCons (hv w h) (allCons (hv w h) (allCons (hv w h) (allCons (hv w h) allNil))))
      obtain rfl : j = pg.length := by omega
      rw [← htl, List.take_length] at hqq ⊢
      refine Pw.freeG hqq (fun At ct et hct => ?_)
      refine Pw.re (d := 25) (v' := sl (tots x size.toNat) (At, ct)) rfl et ?_
      rw [htl]
      have htu : ∀ n ∈ tots x size.toNat, U64 n := fun n hn => by
        obtain ⟨p, hp, rfl⟩ := List.mem_map.1 hn
        exact sumM_u _ (stk_u hxW p hp)
      have hsi : (i : Int) < (((shL a xs ps).length : Nat) : Int) := by omega
      obtain ⟨zA1, zc1⟩ := zA
      have hlo := lefts_ok (k := size.toNat) ha hX hp hpl (i + 1)
      have hln := left_snoc (k := size.toNat) (a := a) (ps := ps) hx hsh
      have hbl : (bud1 size.toNat sh x).1.length = pg.length := by unfold bud1; rw [spF_len]; exact htl
      have ha2 := ha.2
      have hwl : IntKind.u64.wrap (leftTo size.toNat a xs ps i + (bud1 size.toNat sh x).2) = leftTo size.toNat a xs ps (i + 1) := by rw [hln]; exact wu (by omega) (by omega)
      repeat (first | refine Pw.runs ?_ | refine Pw.list (Pw.box rfl rfl rfl rfl (fun _ => ?_)) | refine Pw.list (Pw.alloc rfl rfl rfl rfl rfl (fun _ => ?_)))
      refine Pw.list (Pw.index rfl rfl rfl rfl hi0 hsi (fun w h => (hv w h : U1 (shL a xs ps) (zA1, zc1) w).has hi0 hsi) rfl rfl ?_)
      rintro sd rfl
      refine Pw.list (Pw.load1 rfl rfl (fun w hs => (hv w hs.all : U1 (shL a xs ps) (some sd, zc1) w).cell hi0 hsi) rfl rfl ?_)
      rw [get_rd hsh]
      by_cases hS2 : 0 < lsum (tots x size.toNat) ∧ lsum (tots x size.toNat) ≤ 18446744073709551615
      · have eS2 : bud1 size.toNat sh x = (spL sh (tots x size.toNat), sh - lsum (spL sh (tots x size.toNat))) := if_pos hS2
        repeat (first | refine Pw.runs ?_ | refine Pw.list (Pw.box rfl rfl rfl rfl (fun _ => ?_)) | refine Pw.list (Pw.alloc rfl rfl rfl rfl rfl (fun _ => ?_)))
        refine Pw.list (Pw.call (tSplitOk_ct sh (tots x size.toNat) (At, ct) hsu htu (by omega) hS2.1 hS2.2) rfl rfl rfl (by kernel_rfl) rfl rfl (fun w h => ints_of_cells hct (by simp only [maxLen]; omega) (fact0 h)) ?_)
        intro zB _
        rw [show spL sh (tots x size.toNat) = (bud1 size.toNat sh x).1 by rw [eS2], show sh - lsum (bud1 size.toNat sh x).1 = (bud1 size.toNat sh x).2 by rw [eS2]]
        repeat (first | refine Pw.runs ?_ | refine Pw.list (Pw.box rfl rfl rfl rfl (fun _ => ?_)) | refine Pw.list (Pw.alloc rfl rfl rfl rfl rfl (fun _ => ?_)))
        refine Pw.eqL (L' := ⟨g24, row [.int .i64 x.id, .int .u64 x.com, .int .u64 x.own, psV x.oth x.z, .slice none 0 0] 86⟩ :: ⟨gr, row [gv ql i, .int .u64 (leftTo size.toNat a xs ps (i + 1))] 54⟩ :: (gL ql ((ds.map Prod.fst).flatMap encOn) 86 ++ dL ds)) (by rw [← hwl]; try rfl) ?_
        obtain ⟨zB1, zB2⟩ := zB
        obtain ⟨bud, hbud⟩ : ∃ bud, (bud1 size.toNat sh x).1 = bud := ⟨_, rfl⟩
        rw [hbud] at hbl ⊢
        have hpn1 : 0 < pg.length := by rw [← hpl2]; unfold pagesS; exact Nat.succ_pos _
        have hrl : (rowK pg bud).length = pg.length := rowK_len hbl
        refine Pw.loopJ (σ := Nat × Gr) (fun t => t.1 ≤ pg.length ∧ gOk t.2 (((rowK pg bud).take t.1).flatMap encD) t.1 3) (fun t => ⟨[(1, .slice (some ad) xs.length c), (3, .int .i64 size), (18, .pointer (some ⟨gr, 0, none⟩)), (19, sl (shL a xs ps) (some sd, zc1)), (22, .slice Ap pg.length cp), (24, .pointer (some ⟨g24, 0, none⟩)), (29, sl bud (zB1, zB2)), (131, .int .i64 xs.length), (132, .int .i64 i), (196, .int .i64 pg.length), (197, .int .i64 t.1)], gL t.2 (((rowK pg bud).take t.1).flatMap encD) 46 ++ (⟨g24, row [.int .i64 x.id, .int .u64 x.com, .int .u64 x.own, psV x.oth x.z, gv t.2 t.1] 86⟩ :: ⟨gr, row [gv ql i, .int .u64 (leftTo size.toNat a xs ps (i + 1))] 54⟩ :: (gL ql ((ds.map Prod.fst).flatMap encOn) 86 ++ dL ds)), [PGS pg (Ap, cp), U1 bud (zB1, zB2), DnA ds, U1 (shL a xs ps) (some sd, zc1), XS xs (some ad, c)]⟩) (fun t => pg.length - t.1) (0, none) ⟨Nat.zero_le _, rfl, rfl⟩ (by
          intro X h
          dsimp only at h
          refine Pw.enter ?_ ?_ X h
          · exact ⟨rfl, rfl, rfl, rfl, rfl, rfl, rfl, rfl, rfl, rfl, rfl, trivial⟩
          · exact fun w h => allCons (hv w h) (allCons (hv w h) (allCons (hv w h) (allCons (hv w h) (allCons (hv w h) allNil))))) ?_
        rintro ⟨k, q⟩ ⟨hk, hqk⟩
        dsimp only at hk hqk ⊢
        repeat (first | refine Pw.runs ?_ | refine Pw.list (Pw.box rfl rfl rfl rfl (fun _ => ?_)) | refine Pw.list (Pw.alloc rfl rfl rfl rfl rfl (fun _ => ?_)))
        refine Pw.condD rfl (fun c9 => ?_) (fun c9 => ?_)
        · have hk00 : (0 : Int) ≤ (k : Int) := Int.natCast_nonneg k
          obtain ⟨⟨pp, Az, cz⟩, hpk, _⟩ := get_at (show k < pg.length by omega)
          obtain ⟨b, hbk, _⟩ := get_at (show k < bud.length by omega)
          have c10 : (k : Int) < ((bud.length : Nat) : Int) := by omega
          have hrk : (rowK pg bud)[k]? = some ((pp, Az, cz), b, false) := rowK_get hpk hbk
          refine Pw.use (p := Ap.isSome = true) (fun w h => (fact0 h).has hk00 c9) (fun hA => ?_)
          obtain ⟨pd, rfl⟩ := Option.isSome_iff_exists.1 hA
          refine Pw.use (p := zB1.isSome = true) (fun w h => (fact1 h).has hk00 c10) (fun hA => ?_)
          obtain ⟨bd, rfl⟩ := Option.isSome_iff_exists.1 hA
          have hrdb := get_rd hbk
          repeat (first | refine Pw.runs ?_ | refine Pw.list (Pw.box rfl rfl rfl rfl (fun _ => ?_)) | refine Pw.list (Pw.alloc rfl rfl rfl rfl rfl (fun _ => ?_)))
          refine Pw.drawnG mixed rfl rfl ?_
          refine Pw.takeP 0 (nb 15 1) rfl rfl rfl rfl (by kernel_rfl) np sf ?_
          refine Pw.takeP 2 (nb 15 5) rfl rfl rfl rfl (by kernel_rfl) np sf ?_
          refine Pw.takeP 3 (nb 15 13) rfl rfl rfl rfl (by kernel_rfl) np sf ?_
          refine Pw.takeIx 4 (nb 15 29) rfl rfl rfl rfl rfl (by first | assumption | omega) (by first | assumption | omega) rfl rfl (by kernel_rfl) np sf ?_
          refine Pw.takeLC (pp, Az, cz) 5 (nb 15 61) rfl rfl inferInstance rfl (by rw [Int.toNat_natCast]; exact hpk) rfl rfl rfl rfl (by kernel_rfl) np sf ?_
          refine Pw.takeP 6 (nb 15 125) rfl rfl rfl rfl (by kernel_rfl) np sf ?_
          refine Pw.takeP 7 (nb 15 253) rfl rfl rfl rfl (by kernel_rfl) np sf ?_
          refine Pw.takeIx 8 (nb 15 509) rfl rfl rfl rfl rfl (by first | assumption | omega) (by first | assumption | omega) rfl rfl (by kernel_rfl) np sf ?_
          refine Pw.takeLd 9 (nb 15 1021) rfl rfl rfl (fun w hS => (hv w hS : U1 bud (some bd, zB2) w).cell hk00 c10) rfl rfl (by kernel_rfl) np sf ?_
          rw [hrdb]
          refine Pw.takeBuild 10 (nb 15 2045) rfl rfl rfl rfl rfl (by kernel_rfl) np sf ?_
          refine Pw.two 1 11 (nb 15 2047) (nb 15 4093) rfl rfl (by kernel_rfl) ?_ ?_
          · skip
            refine Pw.loadO (g := g24) (i := 4) (cs := [.int .i64 x.id, .int .u64 x.com, .int .u64 x.own, psV x.oth x.z, gv q k]) (t := 86) rfl rfl (List.mem_append_right _ (.head _)) rfl rfl rfl ?_
            refine Pw.held sf ?_
            refine Pw.one 11 (nb 15 4095) rfl (by kernel_rfl) ?_
            refine Pw.lit13 rfl rfl rfl rfl rfl rfl rfl rfl rfl (fun g2 => freeHead ?_)
            refine Pw.held sf ?_
            refine Pw.one 12 (nb 15 8191) rfl (by kernel_rfl) ?_
            refine Pw.push (s := q) (m := k) (news := encD ((pp, Az, cz), b, false)) rfl rfl rfl rfl rfl rfl rfl hqk rfl (fun u hu => by
              simp only [encD, List.mem_cons, List.not_mem_nil, or_false] at hu
              rcases hu with rfl | rfl | rfl <;> rfl) (fun w hs j u hu => by
              have h1 : w.heap[g2]? = some (row (encD ((pp, Az, cz), b, false)) 46) := fact0 hs.all
              rw [add_none, cell_of_blk h1]
              simpa using hu) (by omega) (by simp only [maxLen]; omega) (by show (k + 1) * 40 ≤ _; omega) rfl rfl (fun q' hq' => ?_)
            have e4 : ((rowK pg bud).take k).flatMap encD ++ encD ((pp, Az, cz), b, false) = ((rowK pg bud).take (k + 1)).flatMap encD := by rw [take_snoc hrk, List.flatMap_append]; simp
            rw [e4] at hq' ⊢
            refine Pw.perm List.perm_middle ?_
            refine Pw.held sf ?_
            refine Pw.takeP 13 (nb 15 16383) rfl rfl rfl rfl (by kernel_rfl) np sf ?_
            refine Pw.one 14 (nb 15 32767) rfl (by kernel_rfl) ?_
            refine Pw.storeO rfl rfl rfl rfl (by cases q' <;> rfl) (by show 4 < 5; omega) rfl .head rfl ?_
            refine Pw.held sf ?_
            refine Pw.done (by kernel_rfl) ?_
            refine Pw.perm List.perm_middle.symm ?_
            repeat (first | refine Pw.runs ?_ | refine Pw.list (Pw.box rfl rfl rfl rfl (fun _ => ?_)) | refine Pw.list (Pw.alloc rfl rfl rfl rfl rfl (fun _ => ?_)))
            refine Pw.re (d := 197) (v' := .int .i64 ((k + 1 : Nat) : Int)) rfl (congrArg (Value.int .i64) (i64s (n := 1000000) (by omega) (by omega))) ?_
            exact Pw.again (k + 1, q') ⟨by show k + 1 ≤ pg.length; omega, hq'⟩ (by show pg.length - (k + 1) < pg.length - k; omega) ⟨rfl, rfl, rfl, rfl, rfl, rfl, rfl, rfl, rfl, rfl, rfl, trivial⟩ rfl (fun w h => allTail h)
          · skip
            refine Pw.lit13 rfl rfl rfl rfl rfl rfl rfl rfl rfl (fun g2 => freeHead ?_)
            refine Pw.held sf ?_
            refine Pw.one 1 (nb 15 4095) rfl (by kernel_rfl) ?_
            refine Pw.loadO (g := g24) (i := 4) (cs := [.int .i64 x.id, .int .u64 x.com, .int .u64 x.own, psV x.oth x.z, gv q k]) (t := 86) rfl rfl (List.mem_append_right _ (.head _)) rfl rfl rfl ?_
            refine Pw.held sf ?_
            refine Pw.one 12 (nb 15 8191) rfl (by kernel_rfl) ?_
            refine Pw.push (s := q) (m := k) (news := encD ((pp, Az, cz), b, false)) rfl rfl rfl rfl rfl rfl rfl hqk rfl (fun u hu => by
              simp only [encD, List.mem_cons, List.not_mem_nil, or_false] at hu
              rcases hu with rfl | rfl | rfl <;> rfl) (fun w hs j u hu => by
              have h1 : w.heap[g2]? = some (row (encD ((pp, Az, cz), b, false)) 46) := fact0 hs.all
              rw [add_none, cell_of_blk h1]
              simpa using hu) (by omega) (by simp only [maxLen]; omega) (by show (k + 1) * 40 ≤ _; omega) rfl rfl (fun q' hq' => ?_)
            have e4 : ((rowK pg bud).take k).flatMap encD ++ encD ((pp, Az, cz), b, false) = ((rowK pg bud).take (k + 1)).flatMap encD := by rw [take_snoc hrk, List.flatMap_append]; simp
            rw [e4] at hq' ⊢
            refine Pw.perm List.perm_middle ?_
            refine Pw.held sf ?_
            refine Pw.takeP 13 (nb 15 16383) rfl rfl rfl rfl (by kernel_rfl) np sf ?_
            refine Pw.one 14 (nb 15 32767) rfl (by kernel_rfl) ?_
            refine Pw.storeO rfl rfl rfl rfl (by cases q' <;> rfl) (by show 4 < 5; omega) rfl .head rfl ?_
            refine Pw.held sf ?_
            refine Pw.done (by kernel_rfl) ?_
            refine Pw.perm List.perm_middle.symm ?_
            repeat (first | refine Pw.runs ?_ | refine Pw.list (Pw.box rfl rfl rfl rfl (fun _ => ?_)) | refine Pw.list (Pw.alloc rfl rfl rfl rfl rfl (fun _ => ?_)))
            refine Pw.re (d := 197) (v' := .int .i64 ((k + 1 : Nat) : Int)) rfl (congrArg (Value.int .i64) (i64s (n := 1000000) (by omega) (by omega))) ?_
            exact Pw.again (k + 1, q') ⟨by show k + 1 ≤ pg.length; omega, hq'⟩ (by show pg.length - (k + 1) < pg.length - k; omega) ⟨rfl, rfl, rfl, rfl, rfl, rfl, rfl, rfl, rfl, rfl, rfl, trivial⟩ rfl (fun w h => allTail h)
        obtain rfl : k = pg.length := by omega
        rw [show (rowK pg bud).take pg.length = rowK pg bud by rw [← hrl, List.take_length]] at hqk ⊢
        rcases q with _ | ⟨gp, cap, ex⟩
        · exact absurd hqk.1 (by omega)
        refine Pw.use (p := Ap.isSome = true) (fun w h => (hv w h : PGS pg (Ap, cp) w).has (i := 0) (Int.le_refl 0) (by omega)) (fun hA => ?_)
        obtain ⟨pad, rfl⟩ := Option.isSome_iff_exists.1 hA
        obtain ⟨d, hd⟩ : ∃ d : Dn × List Bool, d = (⟨x, pg, bud, gp, cap, ex⟩, List.replicate pg.length false) := ⟨_, rfl⟩
        refine Pw.eqL (L' := dB d :: ⟨g24, row (encOn d.1) 86⟩ :: ⟨gr, row [gv ql i, .int .u64 (leftTo size.toNat a xs ps (i + 1))] 54⟩ :: (gL ql ((ds.map Prod.fst).flatMap encOn) 86 ++ dL ds)) (by rw [hd]; rfl) ?_
        refine Pw.perm (List.Perm.swap _ _ _) ?_
        refine freeHead ?_
        refine Pw.perm perm2X ?_
        have hdB : DnB size.toNat x sh d := by rw [hd]; exact ⟨rfl, hpg, hbud.symm, rfl⟩
        have hpgP : ∀ w, PGS pg (some pad, cp) w → heldOn d.1 w := fun w h p hp => by
          rw [hd] at hp
          obtain ⟨j, hj⟩ := List.getElem?_of_mem hp
          have hj : pg[j]? = some p := hj
          exact (h.at hj).2.1
        refine Pw.facts (G' := [fun W => W.heap[g24]? = some (row (encOn d.1) 86), heldOn d.1, DnA ds, U1 (shL a xs ps) (some sd, zc1), XS xs (some ad, c)]) (fun w h => allCons (fact0 h) (allCons (hpgP w (hv w h : PGS pg (some pad, cp) w)) (allCons (hv w h) (allCons (hv w h) (allCons (hv w h) allNil))))) ?_
        repeat (first | refine Pw.runs ?_ | refine Pw.list (Pw.box rfl rfl rfl rfl (fun _ => ?_)) | refine Pw.list (Pw.alloc rfl rfl rfl rfl rfl (fun _ => ?_)))
        refine Pw.drawnG mixed rfl rfl ?_
        refine Pw.takeP 0 (nb 11 1) rfl rfl rfl rfl (by kernel_rfl) np sf ?_
        refine Pw.takeP 1 (nb 11 3) rfl rfl rfl rfl (by kernel_rfl) np sf ?_
        refine Pw.takeP 2 (nb 11 7) rfl rfl rfl rfl (by kernel_rfl) np sf ?_
        refine Pw.takeP 3 (nb 11 15) rfl rfl rfl rfl (by kernel_rfl) np sf ?_
        refine Pw.takeF 5 (nb 11 47) rfl rfl inferInstance rfl rfl rfl (by kernel_rfl) np sf ?_
        refine Pw.two 4 6 (nb 11 63) (nb 11 111) rfl rfl (by kernel_rfl) ?_ ?_
        · skip
          refine Pw.loadO (g := gr) (i := 0) (cs := [gv ql i, .int .u64 (leftTo size.toNat a xs ps (i + 1))]) (t := 54) rfl rfl (List.mem_append_right _ (.head _)) rfl rfl rfl ?_
          refine Pw.held sf ?_
          refine Pw.one 6 (nb 11 127) rfl (by kernel_rfl) ?_
          refine Pw.lit15 rfl rfl rfl rfl rfl rfl rfl rfl rfl (fun g2 => freeHead ?_)
          refine Pw.held sf ?_
          refine Pw.one 7 (nb 11 255) rfl (by kernel_rfl) ?_
          refine Pw.push (s := ql) (m := i) (news := encOn d.1) rfl rfl rfl rfl rfl rfl rfl hql rfl (fun u hu => by
            simp only [encOn, List.mem_cons, List.not_mem_nil, or_false] at hu
            rcases hu with rfl | rfl | rfl | rfl | rfl <;> rfl) (fun w hs j u hu => by
            have h1 : w.heap[g2]? = some (row (encOn d.1) 86) := fact0 hs.all
            rw [add_none, cell_of_blk h1]
            simpa using hu) (by omega) (by simp only [maxLen]; omega) (by show (i + 1) * 72 ≤ _; omega) rfl rfl (fun ql' hql' => ?_)
          refine Pw.perm List.perm_middle ?_
          refine Pw.held sf ?_
          refine Pw.takeP 8 (nb 11 511) rfl rfl rfl rfl (by kernel_rfl) np sf ?_
          refine Pw.takeP 9 (nb 11 1023) rfl rfl rfl rfl (by kernel_rfl) np sf ?_
          refine Pw.one 10 (nb 11 2047) rfl (by kernel_rfl) ?_
          refine Pw.storeO rfl rfl rfl rfl (by cases ql' <;> rfl) (by show 0 < 2; omega) rfl .head rfl ?_
          refine Pw.held sf ?_
          refine Pw.done (by kernel_rfl) ?_
          have e6 : (ds.map Prod.fst).flatMap encOn ++ encOn d.1 = ((ds ++ [d]).map Prod.fst).flatMap encOn := by rw [List.map_append, List.flatMap_append]; simp
          rw [e6] at hql' ⊢
          refine Pw.perm (permEd d ds) ?_
          repeat (first | refine Pw.runs ?_ | refine Pw.list (Pw.box rfl rfl rfl rfl (fun _ => ?_)) | refine Pw.list (Pw.alloc rfl rfl rfl rfl rfl (fun _ => ?_)))
          refine Pw.re (d := 132) (v' := .int .i64 ((i + 1 : Nat) : Int)) rfl (congrArg (Value.int .i64) (i64s (n := 1000000) (by omega) (by omega))) ?_
          exact Pw.again (i + 1, ql', ds ++ [d]) ⟨by show i + 1 ≤ xs.length; omega, ⟨by show (ds ++ [d]).length = i + 1; rw [List.length_append, hds.1]; rfl, fun j d' hj => by
            rcases Nat.lt_or_ge j ds.length with h | h
            · rw [List.getElem?_append_left h] at hj
              exact hds.2 j d' hj
            · have hj2 : j < (ds ++ [d]).length := (List.getElem?_eq_some_iff.1 hj).1
              rw [List.length_append, List.length_singleton] at hj2
              obtain rfl : j = ds.length := by omega
              rw [List.getElem?_concat_length] at hj
              obtain rfl := Option.some.inj hj
              have hi2 := hds.1
              rw [hi2]
              exact ⟨x, sh, hx, hsh, hdB⟩⟩, hql'⟩ (by show xs.length - (i + 1) < xs.length - i; omega) ⟨rfl, rfl, rfl, rfl, rfl, rfl, trivial⟩ rfl (fun w h => allCons (fun d' hd' => by
            rcases List.mem_append.1 hd' with h1 | h1
            · exact (hv w h : DnA ds w) d' h1
            · rw [List.mem_singleton.1 h1]; exact (hv w h : heldOn d.1 w)) (allCons (hv w h) (allCons (hv w h) allNil)))
        · skip
          refine Pw.lit15 rfl rfl rfl rfl rfl rfl rfl rfl rfl (fun g2 => freeHead ?_)
          refine Pw.held sf ?_
          refine Pw.one 4 (nb 11 127) rfl (by kernel_rfl) ?_
          refine Pw.loadO (g := gr) (i := 0) (cs := [gv ql i, .int .u64 (leftTo size.toNat a xs ps (i + 1))]) (t := 54) rfl rfl (List.mem_append_right _ (.head _)) rfl rfl rfl ?_
          refine Pw.held sf ?_
          refine Pw.one 7 (nb 11 255) rfl (by kernel_rfl) ?_
          refine Pw.push (s := ql) (m := i) (news := encOn d.1) rfl rfl rfl rfl rfl rfl rfl hql rfl (fun u hu => by
            simp only [encOn, List.mem_cons, List.not_mem_nil, or_false] at hu
            rcases hu with rfl | rfl | rfl | rfl | rfl <;> rfl) (fun w hs j u hu => by
            have h1 : w.heap[g2]? = some (row (encOn d.1) 86) := fact0 hs.all
            rw [add_none, cell_of_blk h1]
            simpa using hu) (by omega) (by simp only [maxLen]; omega) (by show (i + 1) * 72 ≤ _; omega) rfl rfl (fun ql' hql' => ?_)
          refine Pw.perm List.perm_middle ?_
          refine Pw.held sf ?_
          refine Pw.takeP 8 (nb 11 511) rfl rfl rfl rfl (by kernel_rfl) np sf ?_
          refine Pw.takeP 9 (nb 11 1023) rfl rfl rfl rfl (by kernel_rfl) np sf ?_
          refine Pw.one 10 (nb 11 2047) rfl (by kernel_rfl) ?_
          refine Pw.storeO rfl rfl rfl rfl (by cases ql' <;> rfl) (by show 0 < 2; omega) rfl .head rfl ?_
          refine Pw.held sf ?_
          refine Pw.done (by kernel_rfl) ?_
          have e6 : (ds.map Prod.fst).flatMap encOn ++ encOn d.1 = ((ds ++ [d]).map Prod.fst).flatMap encOn := by rw [List.map_append, List.flatMap_append]; simp
          rw [e6] at hql' ⊢
          refine Pw.perm (permEd d ds) ?_
          repeat (first | refine Pw.runs ?_ | refine Pw.list (Pw.box rfl rfl rfl rfl (fun _ => ?_)) | refine Pw.list (Pw.alloc rfl rfl rfl rfl rfl (fun _ => ?_)))
          refine Pw.re (d := 132) (v' := .int .i64 ((i + 1 : Nat) : Int)) rfl (congrArg (Value.int .i64) (i64s (n := 1000000) (by omega) (by omega))) ?_
          exact Pw.again (i + 1, ql', ds ++ [d]) ⟨by show i + 1 ≤ xs.length; omega, ⟨by show (ds ++ [d]).length = i + 1; rw [List.length_append, hds.1]; rfl, fun j d' hj => by
            rcases Nat.lt_or_ge j ds.length with h | h
            · rw [List.getElem?_append_left h] at hj
              exact hds.2 j d' hj
            · have hj2 : j < (ds ++ [d]).length := (List.getElem?_eq_some_iff.1 hj).1
              rw [List.length_append, List.length_singleton] at hj2
              obtain rfl : j = ds.length := by omega
              rw [List.getElem?_concat_length] at hj
              obtain rfl := Option.some.inj hj
              have hi2 := hds.1
              rw [hi2]
              exact ⟨x, sh, hx, hsh, hdB⟩⟩, hql'⟩ (by show xs.length - (i + 1) < xs.length - i; omega) ⟨rfl, rfl, rfl, rfl, rfl, rfl, trivial⟩ rfl (fun w h => allCons (fun d' hd' => by
            rcases List.mem_append.1 hd' with h1 | h1
            · exact (hv w h : DnA ds w) d' h1
            · rw [List.mem_singleton.1 h1]; exact (hv w h : heldOn d.1 w)) (allCons (hv w h) (allCons (hv w h) allNil)))
      · have eS2 : bud1 size.toNat sh x = (List.replicate pg.length 0, sh) := by
          unfold bud1 spF
          rw [if_neg hS2, List.map_const']
          rw [show ((pagesS x size.toNat).map (fun p => (sumM (stk p)).1)).length = pg.length from htl]
        have hne2 : ¬ ((if lsum (tots x size.toNat) ≤ 18446744073709551615 then 5 else 3 : Int) = 0) := by split <;> omega
        have hlr2 : (List.replicate pg.length (0 : Int)).length = pg.length := List.length_replicate
        have hrds := get_rd hsh
        repeat (first | refine Pw.runs ?_ | refine Pw.list (Pw.box rfl rfl rfl rfl (fun _ => ?_)) | refine Pw.list (Pw.alloc rfl rfl rfl rfl rfl (fun _ => ?_)))
        refine Pw.list (Pw.call (tSplitErr_ct sh (tots x size.toNat) (At, ct) htu hS2) rfl rfl rfl (by kernel_rfl) rfl rfl (fun w h => ints_of_cells hct (by simp only [maxLen]; omega) (fact0 h)) ?_)
        intro _ _
        repeat (first | refine Pw.runs ?_ | refine Pw.list (Pw.box rfl rfl rfl rfl (fun _ => ?_)) | refine Pw.list (Pw.alloc rfl rfl rfl rfl rfl (fun _ => ?_)))
        refine Pw.joinF (σ := Nat) (fun _ => True) (fun g => ⟨[(1, .slice (some ad) xs.length c), (3, .int .i64 size), (18, .pointer (some ⟨gr, 0, none⟩)), (19, sl (shL a xs ps) (some sd, zc1)), (22, .slice Ap pg.length cp), (24, .pointer (some ⟨g24, 0, none⟩)), (29, sl (bud1 size.toNat sh x).1 (some ⟨g, 0, none⟩, pg.length)), (30, .int .u64 (bud1 size.toNat sh x).2), (131, .int .i64 xs.length), (132, .int .i64 i)], ⟨g24, row [.int .i64 x.id, .int .u64 x.com, .int .u64 x.own, psV x.oth x.z, .slice none 0 0] 86⟩ :: ⟨gr, row [gv ql i, .int .u64 (leftTo size.toNat a xs ps i)] 54⟩ :: (gL ql ((ds.map Prod.fst).flatMap encOn) 86 ++ dL ds), [U1 (bud1 size.toNat sh x).1 (some ⟨g, 0, none⟩, pg.length), PGS pg (Ap, cp), DnA ds, U1 (shL a xs ps) (some sd, zc1), XS xs (some ad, c)]⟩) ?_ ?_
        · refine Pw.condD rfl (fun c1 => ?_) (fun c1 => absurd c1 (by simpa using hne2))
          repeat (first | refine Pw.runs ?_ | refine Pw.list (Pw.box rfl rfl rfl rfl (fun _ => ?_)) | refine Pw.list (Pw.alloc rfl rfl rfl rfl rfl (fun _ => ?_)))
          refine Pw.drawnG mixed rfl rfl ?_
          refine Pw.takeP 0 (nb 9 1) rfl rfl rfl rfl (by kernel_rfl) np sf ?_
          refine Pw.takeP 1 (nb 9 3) rfl rfl rfl rfl (by kernel_rfl) np sf ?_
          refine Pw.takeP 3 (nb 9 11) rfl rfl rfl rfl (by kernel_rfl) np sf ?_
          refine Pw.takeP 4 (nb 9 27) rfl rfl rfl rfl (by kernel_rfl) np sf ?_
          refine Pw.takeIx 5 (nb 9 59) rfl rfl rfl rfl rfl (by first | assumption | omega) (by first | assumption | omega) rfl rfl (by kernel_rfl) np sf ?_
          refine Pw.takeLd 6 (nb 9 123) rfl rfl rfl (fun w hS => (hv w hS : U1 (shL a xs ps) (some sd, zc1) w).cell hi0 hsi) rfl rfl (by kernel_rfl) np sf ?_
          rw [hrds]
          refine Pw.one 2 (nb 9 127) rfl (by kernel_rfl) ?_
          refine Pw.make (m := pg.length) rfl rfl rfl rfl rfl rfl (by show 8 * pg.length ≤ _; omega) (by simp only [maxLen]; omega) rfl rfl (fun g => freeHead ?_)
          refine Pw.held sf ?_
          refine Pw.takeP 7 (nb 9 255) rfl rfl rfl rfl (by kernel_rfl) np sf ?_
          refine Pw.takeP 8 (nb 9 511) rfl rfl rfl rfl (by kernel_rfl) np sf ?_
          refine Pw.done (by kernel_rfl) ?_
          skip
          repeat (first | refine Pw.runs ?_ | refine Pw.list (Pw.box rfl rfl rfl rfl (fun _ => ?_)) | refine Pw.list (Pw.alloc rfl rfl rfl rfl rfl (fun _ => ?_)))
          refine Pw.re (d := 30) (v' := .int .u64 (bud1 size.toNat sh x).2) rfl (by rw [eS2]) ?_
          refine Pw.re (d := 29) (v' := sl (bud1 size.toNat sh x).1 (some ⟨g, 0, none⟩, pg.length)) rfl (by rw [eS2]; show Value.slice _ pg.length _ = .slice _ (List.replicate pg.length (0 : Int)).length _; rw [hlr2]) ?_
          exact Pw.arrive g trivial ⟨rfl, rfl, rfl, rfl, rfl, rfl, rfl, rfl, rfl, rfl, trivial⟩ rfl (fun w h => allCons (by rw [eS2]; exact ints_of_row' (l := List.replicate pg.length 0) (by have := fact0 h; simpa using this) (by rw [hlr2]; exact Nat.le_refl _) (by rw [hlr2]; simp only [maxLen]; omega)) (allCons (hv w h) (allCons (hv w h) (allCons (hv w h) (allCons (hv w h) allNil)))))
        intro g _
        dsimp only
        obtain ⟨zB, hzB⟩ : ∃ z : Option Addr × Nat, (some ⟨g, 0, none⟩, pg.length) = z := ⟨_, rfl⟩
        rw [hzB]
        obtain ⟨zB1, zB2⟩ := zB
        repeat (first | refine Pw.runs ?_ | refine Pw.list (Pw.box rfl rfl rfl rfl (fun _ => ?_)) | refine Pw.list (Pw.alloc rfl rfl rfl rfl rfl (fun _ => ?_)))
        refine Pw.eqL (L' := ⟨g24, row [.int .i64 x.id, .int .u64 x.com, .int .u64 x.own, psV x.oth x.z, .slice none 0 0] 86⟩ :: ⟨gr, row [gv ql i, .int .u64 (leftTo size.toNat a xs ps (i + 1))] 54⟩ :: (gL ql ((ds.map Prod.fst).flatMap encOn) 86 ++ dL ds)) (by rw [← hwl]; try rfl) ?_
        obtain ⟨bud, hbud⟩ : ∃ bud, (bud1 size.toNat sh x).1 = bud := ⟨_, rfl⟩
        rw [hbud] at hbl ⊢
        have hpn1 : 0 < pg.length := by rw [← hpl2]; unfold pagesS; exact Nat.succ_pos _
        have hrl : (rowK pg bud).length = pg.length := rowK_len hbl
        refine Pw.loopJ (σ := Nat × Gr) (fun t => t.1 ≤ pg.length ∧ gOk t.2 (((rowK pg bud).take t.1).flatMap encD) t.1 3) (fun t => ⟨[(1, .slice (some ad) xs.length c), (3, .int .i64 size), (18, .pointer (some ⟨gr, 0, none⟩)), (19, sl (shL a xs ps) (some sd, zc1)), (22, .slice Ap pg.length cp), (24, .pointer (some ⟨g24, 0, none⟩)), (29, sl bud (zB1, zB2)), (131, .int .i64 xs.length), (132, .int .i64 i), (196, .int .i64 pg.length), (197, .int .i64 t.1)], gL t.2 (((rowK pg bud).take t.1).flatMap encD) 46 ++ (⟨g24, row [.int .i64 x.id, .int .u64 x.com, .int .u64 x.own, psV x.oth x.z, gv t.2 t.1] 86⟩ :: ⟨gr, row [gv ql i, .int .u64 (leftTo size.toNat a xs ps (i + 1))] 54⟩ :: (gL ql ((ds.map Prod.fst).flatMap encOn) 86 ++ dL ds)), [PGS pg (Ap, cp), U1 bud (zB1, zB2), DnA ds, U1 (shL a xs ps) (some sd, zc1), XS xs (some ad, c)]⟩) (fun t => pg.length - t.1) (0, none) ⟨Nat.zero_le _, rfl, rfl⟩ (by
          intro X h
          dsimp only at h
          refine Pw.enter ?_ ?_ X h
          · exact ⟨rfl, rfl, rfl, rfl, rfl, rfl, rfl, rfl, rfl, rfl, rfl, trivial⟩
          · exact fun w h => allCons (hv w h) (allCons (hv w h) (allCons (hv w h) (allCons (hv w h) (allCons (hv w h) allNil))))) ?_
        rintro ⟨k, q⟩ ⟨hk, hqk⟩
        dsimp only at hk hqk ⊢
        repeat (first | refine Pw.runs ?_ | refine Pw.list (Pw.box rfl rfl rfl rfl (fun _ => ?_)) | refine Pw.list (Pw.alloc rfl rfl rfl rfl rfl (fun _ => ?_)))
        refine Pw.condD rfl (fun c9 => ?_) (fun c9 => ?_)
        · have hk00 : (0 : Int) ≤ (k : Int) := Int.natCast_nonneg k
          obtain ⟨⟨pp, Az, cz⟩, hpk, _⟩ := get_at (show k < pg.length by omega)
          obtain ⟨b, hbk, _⟩ := get_at (show k < bud.length by omega)
          have c10 : (k : Int) < ((bud.length : Nat) : Int) := by omega
          have hrk : (rowK pg bud)[k]? = some ((pp, Az, cz), b, false) := rowK_get hpk hbk
          refine Pw.use (p := Ap.isSome = true) (fun w h => (fact0 h).has hk00 c9) (fun hA => ?_)
          obtain ⟨pd, rfl⟩ := Option.isSome_iff_exists.1 hA
          refine Pw.use (p := zB1.isSome = true) (fun w h => (fact1 h).has hk00 c10) (fun hA => ?_)
          obtain ⟨bd, rfl⟩ := Option.isSome_iff_exists.1 hA
          have hrdb := get_rd hbk
          repeat (first | refine Pw.runs ?_ | refine Pw.list (Pw.box rfl rfl rfl rfl (fun _ => ?_)) | refine Pw.list (Pw.alloc rfl rfl rfl rfl rfl (fun _ => ?_)))
          refine Pw.drawnG mixed rfl rfl ?_
          refine Pw.takeP 0 (nb 15 1) rfl rfl rfl rfl (by kernel_rfl) np sf ?_
          refine Pw.takeP 2 (nb 15 5) rfl rfl rfl rfl (by kernel_rfl) np sf ?_
          refine Pw.takeP 3 (nb 15 13) rfl rfl rfl rfl (by kernel_rfl) np sf ?_
          refine Pw.takeIx 4 (nb 15 29) rfl rfl rfl rfl rfl (by first | assumption | omega) (by first | assumption | omega) rfl rfl (by kernel_rfl) np sf ?_
          refine Pw.takeLC (pp, Az, cz) 5 (nb 15 61) rfl rfl inferInstance rfl (by rw [Int.toNat_natCast]; exact hpk) rfl rfl rfl rfl (by kernel_rfl) np sf ?_
          refine Pw.takeP 6 (nb 15 125) rfl rfl rfl rfl (by kernel_rfl) np sf ?_
          refine Pw.takeP 7 (nb 15 253) rfl rfl rfl rfl (by kernel_rfl) np sf ?_
          refine Pw.takeIx 8 (nb 15 509) rfl rfl rfl rfl rfl (by first | assumption | omega) (by first | assumption | omega) rfl rfl (by kernel_rfl) np sf ?_
          refine Pw.takeLd 9 (nb 15 1021) rfl rfl rfl (fun w hS => (hv w hS : U1 bud (some bd, zB2) w).cell hk00 c10) rfl rfl (by kernel_rfl) np sf ?_
          rw [hrdb]
          refine Pw.takeBuild 10 (nb 15 2045) rfl rfl rfl rfl rfl (by kernel_rfl) np sf ?_
          refine Pw.two 1 11 (nb 15 2047) (nb 15 4093) rfl rfl (by kernel_rfl) ?_ ?_
          · skip
            refine Pw.loadO (g := g24) (i := 4) (cs := [.int .i64 x.id, .int .u64 x.com, .int .u64 x.own, psV x.oth x.z, gv q k]) (t := 86) rfl rfl (List.mem_append_right _ (.head _)) rfl rfl rfl ?_
            refine Pw.held sf ?_
            refine Pw.one 11 (nb 15 4095) rfl (by kernel_rfl) ?_
            refine Pw.lit13 rfl rfl rfl rfl rfl rfl rfl rfl rfl (fun g2 => freeHead ?_)
            refine Pw.held sf ?_
            refine Pw.one 12 (nb 15 8191) rfl (by kernel_rfl) ?_
            refine Pw.push (s := q) (m := k) (news := encD ((pp, Az, cz), b, false)) rfl rfl rfl rfl rfl rfl rfl hqk rfl (fun u hu => by
              simp only [encD, List.mem_cons, List.not_mem_nil, or_false] at hu
              rcases hu with rfl | rfl | rfl <;> rfl) (fun w hs j u hu => by
              have h1 : w.heap[g2]? = some (row (encD ((pp, Az, cz), b, false)) 46) := fact0 hs.all
              rw [add_none, cell_of_blk h1]
              simpa using hu) (by omega) (by simp only [maxLen]; omega) (by show (k + 1) * 40 ≤ _; omega) rfl rfl (fun q' hq' => ?_)
            have e4 : ((rowK pg bud).take k).flatMap encD ++ encD ((pp, Az, cz), b, false) = ((rowK pg bud).take (k + 1)).flatMap encD := by rw [take_snoc hrk, List.flatMap_append]; simp
            rw [e4] at hq' ⊢
            refine Pw.perm List.perm_middle ?_
            refine Pw.held sf ?_
            refine Pw.takeP 13 (nb 15 16383) rfl rfl rfl rfl (by kernel_rfl) np sf ?_
            refine Pw.one 14 (nb 15 32767) rfl (by kernel_rfl) ?_
            refine Pw.storeO rfl rfl rfl rfl (by cases q' <;> rfl) (by show 4 < 5; omega) rfl .head rfl ?_
            refine Pw.held sf ?_
            refine Pw.done (by kernel_rfl) ?_
            refine Pw.perm List.perm_middle.symm ?_
            repeat (first | refine Pw.runs ?_ | refine Pw.list (Pw.box rfl rfl rfl rfl (fun _ => ?_)) | refine Pw.list (Pw.alloc rfl rfl rfl rfl rfl (fun _ => ?_)))
            refine Pw.re (d := 197) (v' := .int .i64 ((k + 1 : Nat) : Int)) rfl (congrArg (Value.int .i64) (i64s (n := 1000000) (by omega) (by omega))) ?_
            exact Pw.again (k + 1, q') ⟨by show k + 1 ≤ pg.length; omega, hq'⟩ (by show pg.length - (k + 1) < pg.length - k; omega) ⟨rfl, rfl, rfl, rfl, rfl, rfl, rfl, rfl, rfl, rfl, rfl, trivial⟩ rfl (fun w h => allTail h)
          · skip
            refine Pw.lit13 rfl rfl rfl rfl rfl rfl rfl rfl rfl (fun g2 => freeHead ?_)
            refine Pw.held sf ?_
            refine Pw.one 1 (nb 15 4095) rfl (by kernel_rfl) ?_
            refine Pw.loadO (g := g24) (i := 4) (cs := [.int .i64 x.id, .int .u64 x.com, .int .u64 x.own, psV x.oth x.z, gv q k]) (t := 86) rfl rfl (List.mem_append_right _ (.head _)) rfl rfl rfl ?_
            refine Pw.held sf ?_
            refine Pw.one 12 (nb 15 8191) rfl (by kernel_rfl) ?_
            refine Pw.push (s := q) (m := k) (news := encD ((pp, Az, cz), b, false)) rfl rfl rfl rfl rfl rfl rfl hqk rfl (fun u hu => by
              simp only [encD, List.mem_cons, List.not_mem_nil, or_false] at hu
              rcases hu with rfl | rfl | rfl <;> rfl) (fun w hs j u hu => by
              have h1 : w.heap[g2]? = some (row (encD ((pp, Az, cz), b, false)) 46) := fact0 hs.all
              rw [add_none, cell_of_blk h1]
              simpa using hu) (by omega) (by simp only [maxLen]; omega) (by show (k + 1) * 40 ≤ _; omega) rfl rfl (fun q' hq' => ?_)
            have e4 : ((rowK pg bud).take k).flatMap encD ++ encD ((pp, Az, cz), b, false) = ((rowK pg bud).take (k + 1)).flatMap encD := by rw [take_snoc hrk, List.flatMap_append]; simp
            rw [e4] at hq' ⊢
            refine Pw.perm List.perm_middle ?_
            refine Pw.held sf ?_
            refine Pw.takeP 13 (nb 15 16383) rfl rfl rfl rfl (by kernel_rfl) np sf ?_
            refine Pw.one 14 (nb 15 32767) rfl (by kernel_rfl) ?_
            refine Pw.storeO rfl rfl rfl rfl (by cases q' <;> rfl) (by show 4 < 5; omega) rfl .head rfl ?_
            refine Pw.held sf ?_
            refine Pw.done (by kernel_rfl) ?_
            refine Pw.perm List.perm_middle.symm ?_
            repeat (first | refine Pw.runs ?_ | refine Pw.list (Pw.box rfl rfl rfl rfl (fun _ => ?_)) | refine Pw.list (Pw.alloc rfl rfl rfl rfl rfl (fun _ => ?_)))
            refine Pw.re (d := 197) (v' := .int .i64 ((k + 1 : Nat) : Int)) rfl (congrArg (Value.int .i64) (i64s (n := 1000000) (by omega) (by omega))) ?_
            exact Pw.again (k + 1, q') ⟨by show k + 1 ≤ pg.length; omega, hq'⟩ (by show pg.length - (k + 1) < pg.length - k; omega) ⟨rfl, rfl, rfl, rfl, rfl, rfl, rfl, rfl, rfl, rfl, rfl, trivial⟩ rfl (fun w h => allTail h)
        obtain rfl : k = pg.length := by omega
        rw [show (rowK pg bud).take pg.length = rowK pg bud by rw [← hrl, List.take_length]] at hqk ⊢
        rcases q with _ | ⟨gp, cap, ex⟩
        · exact absurd hqk.1 (by omega)
        refine Pw.use (p := Ap.isSome = true) (fun w h => (hv w h : PGS pg (Ap, cp) w).has (i := 0) (Int.le_refl 0) (by omega)) (fun hA => ?_)
        obtain ⟨pad, rfl⟩ := Option.isSome_iff_exists.1 hA
        obtain ⟨d, hd⟩ : ∃ d : Dn × List Bool, d = (⟨x, pg, bud, gp, cap, ex⟩, List.replicate pg.length false) := ⟨_, rfl⟩
        refine Pw.eqL (L' := dB d :: ⟨g24, row (encOn d.1) 86⟩ :: ⟨gr, row [gv ql i, .int .u64 (leftTo size.toNat a xs ps (i + 1))] 54⟩ :: (gL ql ((ds.map Prod.fst).flatMap encOn) 86 ++ dL ds)) (by rw [hd]; rfl) ?_
        refine Pw.perm (List.Perm.swap _ _ _) ?_
        refine freeHead ?_
        refine Pw.perm perm2X ?_
        have hdB : DnB size.toNat x sh d := by rw [hd]; exact ⟨rfl, hpg, hbud.symm, rfl⟩
        have hpgP : ∀ w, PGS pg (some pad, cp) w → heldOn d.1 w := fun w h p hp => by
          rw [hd] at hp
          obtain ⟨j, hj⟩ := List.getElem?_of_mem hp
          have hj : pg[j]? = some p := hj
          exact (h.at hj).2.1
        refine Pw.facts (G' := [fun W => W.heap[g24]? = some (row (encOn d.1) 86), heldOn d.1, DnA ds, U1 (shL a xs ps) (some sd, zc1), XS xs (some ad, c)]) (fun w h => allCons (fact0 h) (allCons (hpgP w (hv w h : PGS pg (some pad, cp) w)) (allCons (hv w h) (allCons (hv w h) (allCons (hv w h) allNil))))) ?_
        repeat (first | refine Pw.runs ?_ | refine Pw.list (Pw.box rfl rfl rfl rfl (fun _ => ?_)) | refine Pw.list (Pw.alloc rfl rfl rfl rfl rfl (fun _ => ?_)))
        refine Pw.drawnG mixed rfl rfl ?_
        refine Pw.takeP 0 (nb 11 1) rfl rfl rfl rfl (by kernel_rfl) np sf ?_
        refine Pw.takeP 1 (nb 11 3) rfl rfl rfl rfl (by kernel_rfl) np sf ?_
        refine Pw.takeP 2 (nb 11 7) rfl rfl rfl rfl (by kernel_rfl) np sf ?_
        refine Pw.takeP 3 (nb 11 15) rfl rfl rfl rfl (by kernel_rfl) np sf ?_
        refine Pw.takeF 5 (nb 11 47) rfl rfl inferInstance rfl rfl rfl (by kernel_rfl) np sf ?_
        refine Pw.two 4 6 (nb 11 63) (nb 11 111) rfl rfl (by kernel_rfl) ?_ ?_
        · skip
          refine Pw.loadO (g := gr) (i := 0) (cs := [gv ql i, .int .u64 (leftTo size.toNat a xs ps (i + 1))]) (t := 54) rfl rfl (List.mem_append_right _ (.head _)) rfl rfl rfl ?_
          refine Pw.held sf ?_
          refine Pw.one 6 (nb 11 127) rfl (by kernel_rfl) ?_
          refine Pw.lit15 rfl rfl rfl rfl rfl rfl rfl rfl rfl (fun g2 => freeHead ?_)
          refine Pw.held sf ?_
          refine Pw.one 7 (nb 11 255) rfl (by kernel_rfl) ?_
          refine Pw.push (s := ql) (m := i) (news := encOn d.1) rfl rfl rfl rfl rfl rfl rfl hql rfl (fun u hu => by
            simp only [encOn, List.mem_cons, List.not_mem_nil, or_false] at hu
            rcases hu with rfl | rfl | rfl | rfl | rfl <;> rfl) (fun w hs j u hu => by
            have h1 : w.heap[g2]? = some (row (encOn d.1) 86) := fact0 hs.all
            rw [add_none, cell_of_blk h1]
            simpa using hu) (by omega) (by simp only [maxLen]; omega) (by show (i + 1) * 72 ≤ _; omega) rfl rfl (fun ql' hql' => ?_)
          refine Pw.perm List.perm_middle ?_
          refine Pw.held sf ?_
          refine Pw.takeP 8 (nb 11 511) rfl rfl rfl rfl (by kernel_rfl) np sf ?_
          refine Pw.takeP 9 (nb 11 1023) rfl rfl rfl rfl (by kernel_rfl) np sf ?_
          refine Pw.one 10 (nb 11 2047) rfl (by kernel_rfl) ?_
          refine Pw.storeO rfl rfl rfl rfl (by cases ql' <;> rfl) (by show 0 < 2; omega) rfl .head rfl ?_
          refine Pw.held sf ?_
          refine Pw.done (by kernel_rfl) ?_
          have e6 : (ds.map Prod.fst).flatMap encOn ++ encOn d.1 = ((ds ++ [d]).map Prod.fst).flatMap encOn := by rw [List.map_append, List.flatMap_append]; simp
          rw [e6] at hql' ⊢
          refine Pw.perm (permEd d ds) ?_
          repeat (first | refine Pw.runs ?_ | refine Pw.list (Pw.box rfl rfl rfl rfl (fun _ => ?_)) | refine Pw.list (Pw.alloc rfl rfl rfl rfl rfl (fun _ => ?_)))
          refine Pw.re (d := 132) (v' := .int .i64 ((i + 1 : Nat) : Int)) rfl (congrArg (Value.int .i64) (i64s (n := 1000000) (by omega) (by omega))) ?_
          exact Pw.again (i + 1, ql', ds ++ [d]) ⟨by show i + 1 ≤ xs.length; omega, ⟨by show (ds ++ [d]).length = i + 1; rw [List.length_append, hds.1]; rfl, fun j d' hj => by
            rcases Nat.lt_or_ge j ds.length with h | h
            · rw [List.getElem?_append_left h] at hj
              exact hds.2 j d' hj
            · have hj2 : j < (ds ++ [d]).length := (List.getElem?_eq_some_iff.1 hj).1
              rw [List.length_append, List.length_singleton] at hj2
              obtain rfl : j = ds.length := by omega
              rw [List.getElem?_concat_length] at hj
              obtain rfl := Option.some.inj hj
              have hi2 := hds.1
              rw [hi2]
              exact ⟨x, sh, hx, hsh, hdB⟩⟩, hql'⟩ (by show xs.length - (i + 1) < xs.length - i; omega) ⟨rfl, rfl, rfl, rfl, rfl, rfl, trivial⟩ rfl (fun w h => allCons (fun d' hd' => by
            rcases List.mem_append.1 hd' with h1 | h1
            · exact (hv w h : DnA ds w) d' h1
            · rw [List.mem_singleton.1 h1]; exact (hv w h : heldOn d.1 w)) (allCons (hv w h) (allCons (hv w h) allNil)))
        · skip
          refine Pw.lit15 rfl rfl rfl rfl rfl rfl rfl rfl rfl (fun g2 => freeHead ?_)
          refine Pw.held sf ?_
          refine Pw.one 4 (nb 11 127) rfl (by kernel_rfl) ?_
          refine Pw.loadO (g := gr) (i := 0) (cs := [gv ql i, .int .u64 (leftTo size.toNat a xs ps (i + 1))]) (t := 54) rfl rfl (List.mem_append_right _ (.head _)) rfl rfl rfl ?_
          refine Pw.held sf ?_
          refine Pw.one 7 (nb 11 255) rfl (by kernel_rfl) ?_
          refine Pw.push (s := ql) (m := i) (news := encOn d.1) rfl rfl rfl rfl rfl rfl rfl hql rfl (fun u hu => by
            simp only [encOn, List.mem_cons, List.not_mem_nil, or_false] at hu
            rcases hu with rfl | rfl | rfl | rfl | rfl <;> rfl) (fun w hs j u hu => by
            have h1 : w.heap[g2]? = some (row (encOn d.1) 86) := fact0 hs.all
            rw [add_none, cell_of_blk h1]
            simpa using hu) (by omega) (by simp only [maxLen]; omega) (by show (i + 1) * 72 ≤ _; omega) rfl rfl (fun ql' hql' => ?_)
          refine Pw.perm List.perm_middle ?_
          refine Pw.held sf ?_
          refine Pw.takeP 8 (nb 11 511) rfl rfl rfl rfl (by kernel_rfl) np sf ?_
          refine Pw.takeP 9 (nb 11 1023) rfl rfl rfl rfl (by kernel_rfl) np sf ?_
          refine Pw.one 10 (nb 11 2047) rfl (by kernel_rfl) ?_
          refine Pw.storeO rfl rfl rfl rfl (by cases ql' <;> rfl) (by show 0 < 2; omega) rfl .head rfl ?_
          refine Pw.held sf ?_
          refine Pw.done (by kernel_rfl) ?_
          have e6 : (ds.map Prod.fst).flatMap encOn ++ encOn d.1 = ((ds ++ [d]).map Prod.fst).flatMap encOn := by rw [List.map_append, List.flatMap_append]; simp
          rw [e6] at hql' ⊢
          refine Pw.perm (permEd d ds) ?_
          repeat (first | refine Pw.runs ?_ | refine Pw.list (Pw.box rfl rfl rfl rfl (fun _ => ?_)) | refine Pw.list (Pw.alloc rfl rfl rfl rfl rfl (fun _ => ?_)))
          refine Pw.re (d := 132) (v' := .int .i64 ((i + 1 : Nat) : Int)) rfl (congrArg (Value.int .i64) (i64s (n := 1000000) (by omega) (by omega))) ?_
          exact Pw.again (i + 1, ql', ds ++ [d]) ⟨by show i + 1 ≤ xs.length; omega, ⟨by show (ds ++ [d]).length = i + 1; rw [List.length_append, hds.1]; rfl, fun j d' hj => by
            rcases Nat.lt_or_ge j ds.length with h | h
            · rw [List.getElem?_append_left h] at hj
              exact hds.2 j d' hj
            · have hj2 : j < (ds ++ [d]).length := (List.getElem?_eq_some_iff.1 hj).1
              rw [List.length_append, List.length_singleton] at hj2
              obtain rfl : j = ds.length := by omega
              rw [List.getElem?_concat_length] at hj
              obtain rfl := Option.some.inj hj
              have hi2 := hds.1
              rw [hi2]
              exact ⟨x, sh, hx, hsh, hdB⟩⟩, hql'⟩ (by show xs.length - (i + 1) < xs.length - i; omega) ⟨rfl, rfl, rfl, rfl, rfl, rfl, trivial⟩ rfl (fun w h => allCons (fun d' hd' => by
            rcases List.mem_append.1 hd' with h1 | h1
            · exact (hv w h : DnA ds w) d' h1
            · rw [List.mem_singleton.1 h1]; exact (hv w h : heldOn d.1 w)) (allCons (hv w h) (allCons (hv w h) allNil)))
    · obtain rfl : i = xs.length := by omega
      have hdn : (ds.map Prod.fst).length = xs.length := by rw [List.length_map]; exact hds.1
      refine freeHead ?_
      refine Pw.freeG hql (fun A' c' eg hc' => ?_)
      repeat (first | refine Pw.runs ?_ | refine Pw.list (Pw.box rfl rfl rfl rfl (fun _ => ?_)) | refine Pw.list (Pw.alloc rfl rfl rfl rfl rfl (fun _ => ?_)))
      refine Pw.eqL (L' := dL ds) (by simp) ?_
      exact Pw.retB (x := some ⟨gr, (A', c'), ds⟩) (List.Sublist.refl _) (.tmp rfl (.tmp rfl .nil)) rfl ⟨hE0, hds⟩ (fun w h => ⟨by rw [hdn, ← eg]; exact fact1 h, rows_of_cells (fun _ _ => rfl) (fun d hd => by
        obtain ⟨d', hd', rfl⟩ := List.mem_map.1 hd
        exact (hv w h : DnA ds w) d' hd') (by rw [hdn]; exact hc') (by rw [hdn]; simp only [maxLen]; omega) (by omega) (fact0 h)⟩)
  · have eS : spF a (cntL xs ps) = (List.replicate xs.length 0, a) := by
      unfold spF; rw [if_neg hS, List.map_const', hcl]
    have hne : ¬ ((if lsum (cntL xs ps) ≤ 18446744073709551615 then 5 else 3 : Int) = 0) := by split <;> omega
    have hlr : (List.replicate xs.length (0 : Int)).length = xs.length := List.length_replicate
    refine Pw.list (Pw.call (tSplitErr_ct a (cntL xs ps) (Ac, cc) (cntL_u hp) hS) rfl rfl rfl (by kernel_rfl) rfl rfl (fun w h => (hv w h)) ?_)
    intro _ _
    repeat (first | refine Pw.runs ?_ | refine Pw.list (Pw.box rfl rfl rfl rfl (fun _ => ?_)) | refine Pw.list (Pw.alloc rfl rfl rfl rfl rfl (fun _ => ?_)))
    refine Pw.joinF (σ := Nat) (fun _ => True) (fun g => ⟨[(1, .slice A xs.length c), (3, .int .i64 size), (18, .pointer (some ⟨gr, 0, none⟩)), (19, sl (shL a xs ps) (some ⟨g, 0, none⟩, xs.length)), (20, .int .u64 (spF a (cntL xs ps)).2)], [⟨gr, row [.slice none 0 0, .int .u64 0] 54⟩], [U1 (shL a xs ps) (some ⟨g, 0, none⟩, xs.length), XS xs (A, c)]⟩) ?_ ?_
    · refine Pw.condD rfl (fun c7 => ?_) (fun c7 => absurd c7 (by simpa using hne))
      repeat (first | refine Pw.runs ?_ | refine Pw.list (Pw.box rfl rfl rfl rfl (fun _ => ?_)) | refine Pw.list (Pw.alloc rfl rfl rfl rfl rfl (fun _ => ?_)))
      refine Pw.list (Pw.make (m := xs.length) rfl rfl rfl rfl rfl rfl (by show 8 * xs.length ≤ _; omega) (by simp only [maxLen]; omega) rfl rfl (fun g => freeHead ?_))
      repeat (first | refine Pw.runs ?_ | refine Pw.list (Pw.box rfl rfl rfl rfl (fun _ => ?_)) | refine Pw.list (Pw.alloc rfl rfl rfl rfl rfl (fun _ => ?_)))
      refine Pw.re (d := 20) (v' := .int .u64 (spF a (cntL xs ps)).2) rfl (by rw [eS]) ?_
      refine Pw.re (d := 19) (v' := sl (shL a xs ps) (some ⟨g, 0, none⟩, xs.length)) rfl (by unfold shL; rw [eS]; try (show Value.slice _ xs.length _ = .slice _ (List.replicate xs.length (0 : Int)).length _; rw [hlr])) ?_
      exact Pw.arrive g trivial ⟨rfl, rfl, rfl, rfl, rfl, trivial⟩ rfl (fun w h => allCons (by unfold shL; rw [eS]; exact ints_of_row' (l := List.replicate xs.length 0) (by have := fact0 h; simpa using this) (by rw [hlr]; exact Nat.le_refl _) (by rw [hlr]; simp only [maxLen]; omega)) (allCons (hv w h) allNil))
    intro g _
    dsimp only
    obtain ⟨zA, hzA⟩ : ∃ zA : Option Addr × Nat, (some ⟨g, 0, none⟩, xs.length) = zA := ⟨_, rfl⟩
    rw [hzA]
    repeat (first | refine Pw.runs ?_ | refine Pw.list (Pw.box rfl rfl rfl rfl (fun _ => ?_)) | refine Pw.list (Pw.alloc rfl rfl rfl rfl rfl (fun _ => ?_)))
    refine Pw.eqL (L' := [⟨gr, row [.slice none 0 0, .int .u64 (leftTo size.toNat a xs ps 0)] 54⟩]) (by rw [show leftTo size.toNat a xs ps 0 = (spF a (cntL xs ps)).2 by unfold leftTo; rw [List.take_zero]; exact Int.add_zero _]; try rfl) ?_
    refine Pw.loopJ (σ := Nat × Gr × Ds) (fun t => t.1 ≤ xs.length ∧ DNewOk size.toNat a xs ps t.1 t.2.2 ∧ gOk t.2.1 ((t.2.2.map Prod.fst).flatMap encOn) t.1 5) (fun t => ⟨[(1, .slice A xs.length c), (3, .int .i64 size), (18, .pointer (some ⟨gr, 0, none⟩)), (19, sl (shL a xs ps) zA), (131, .int .i64 xs.length), (132, .int .i64 t.1)], ⟨gr, row [gv t.2.1 t.1, .int .u64 (leftTo size.toNat a xs ps t.1)] 54⟩ :: (gL t.2.1 ((t.2.2.map Prod.fst).flatMap encOn) 86 ++ dL t.2.2), [DnA t.2.2, U1 (shL a xs ps) zA, XS xs (A, c)]⟩) (fun t => xs.length - t.1) (0, none, []) ⟨Nat.zero_le _, ⟨rfl, fun j d h => by cases h⟩, rfl, rfl⟩ (by
      intro X h
      dsimp only at h
      refine Pw.enter ?_ ?_ X h
      · exact ⟨rfl, rfl, rfl, rfl, rfl, rfl, trivial⟩
      · exact fun w h => allCons (fun d hd => by cases hd) (allCons (hv w h) (allCons (hv w h) allNil))) ?_
    rintro ⟨i, ql, ds⟩ ⟨hi, hds, hql⟩
    dsimp only at hi hds hql ⊢
    repeat (first | refine Pw.runs ?_ | refine Pw.list (Pw.box rfl rfl rfl rfl (fun _ => ?_)) | refine Pw.list (Pw.alloc rfl rfl rfl rfl rfl (fun _ => ?_)))
    refine Pw.condD rfl (fun c7 => ?_) (fun c7 => ?_)
    · have hi0 : (0 : Int) ≤ (i : Int) := Int.natCast_nonneg i
      obtain ⟨x, hx, hxm⟩ := get_at (show i < xs.length by omega)
      obtain ⟨sh, hsh, hshm⟩ := get_at (show i < (shL a xs ps).length by omega)
      obtain ⟨hsu, hsa⟩ := s2 sh hshm
      have hxW := hX.w x hxm
      have hxl := hX.l x hxm
      have hpr : pagesR x size = (pagesS x size.toNat, 0) := by
        have hxf := (okX_ok hok).1 x hxm
        have hxt : (totX x).2 = 0 := by
          unfold totOk at ht
          rw [List.all_eq_true] at ht
          exact of_decide_eq_true (ht x hxm)
        unfold pagesR
        rw [if_neg (fun h => h.elim c1 (fun h => by rw [hxf] at h; cases h)), if_neg (by rw [hxt]; exact fun h => h rfl)]
      have hpc := rPages_ct x hxW hxl size hs
      rw [hpr] at hpc
      have hpgl := pages_le (x := x) hk0
      repeat (first | refine Pw.runs ?_ | refine Pw.list (Pw.box rfl rfl rfl rfl (fun _ => ?_)) | refine Pw.list (Pw.alloc rfl rfl rfl rfl rfl (fun _ => ?_)))
      refine Pw.list (Pw.index rfl rfl rfl rfl hi0 c7 (fun w h => (hv w h : XS xs (A, c) w).has hi0 c7) rfl rfl ?_)
      rintro ad rfl
      refine Pw.list (Pw.loadR x rfl inferInstance rfl (by rw [Int.toNat_natCast]; exact hx) (by kernel_rfl) rfl rfl ?_)
      refine Pw.re (d := 139) (v' := exV x) rfl rfl ?_
      repeat (first | refine Pw.runs ?_ | refine Pw.list (Pw.box rfl rfl rfl rfl (fun _ => ?_)) | refine Pw.list (Pw.alloc rfl rfl rfl rfl rfl (fun _ => ?_)))
      refine Pw.list (Pw.call hpc rfl rfl rfl (by kernel_rfl) rfl rfl (fun w h => (hv w h : heldX x w)) ?_)
      rintro ⟨pg, ⟨Ap, cp⟩⟩ hpg
      dsimp only at hpg ⊢
      have hpl2 : (pagesS x size.toNat).length = pg.length := by rw [← hpg, List.length_map]
      rw [hpl2] at hpgl ⊢
      repeat (first | refine Pw.runs ?_ | refine Pw.list (Pw.box rfl rfl rfl rfl (fun _ => ?_)) | refine Pw.list (Pw.alloc rfl rfl rfl rfl rfl (fun _ => ?_)))
      refine Pw.list (Pw.indexS rfl rfl rfl rfl hi0 c7 rfl rfl ?_)
      refine Pw.list (Pw.loadR x rfl inferInstance rfl (by rw [Int.toNat_natCast]; exact hx) (by kernel_rfl) rfl rfl ?_)
      refine Pw.re (d := 147) (v' := exV x) rfl rfl ?_
      repeat (first | refine Pw.runs ?_ | refine Pw.list (Pw.box rfl rfl rfl rfl (fun _ => ?_)) | refine Pw.list (Pw.alloc rfl rfl rfl rfl rfl (fun _ => ?_)))
      rename_i g24
      refine Pw.eqL (L' := ⟨g24, row [.int .i64 x.id, .int .u64 x.com, .int .u64 x.own, psV x.oth x.z, .slice none 0 0] 86⟩ :: ⟨gr, row [gv ql i, .int .u64 (leftTo size.toNat a xs ps i)] 54⟩ :: (gL ql ((ds.map Prod.fst).flatMap encOn) 86 ++ dL ds)) rfl ?_
      have htl : (tots x size.toNat).length = pg.length := by show (List.map _ _).length = _; rw [List.length_map, hpl2]
      refine Pw.loopJ (σ := Nat × Gr) (fun t => t.1 ≤ pg.length ∧ gOk t.2 (((tots x size.toNat).take t.1).map (Value.int .u64)) t.1 1) (fun t => ⟨[(1, .slice (some ad) xs.length c), (3, .int .i64 size), (18, .pointer (some ⟨gr, 0, none⟩)), (19, sl (shL a xs ps) zA), (21, .int .i64 i), (22, .slice Ap pg.length cp), (24, .pointer (some ⟨g24, 0, none⟩)), (25, gv t.2 t.1), (131, .int .i64 xs.length), (132, .int .i64 i), (150, .int .i64 pg.length), (151, .int .i64 t.1)], gL t.2 (((tots x size.toNat).take t.1).map (Value.int .u64)) 22 ++ (⟨g24, row [.int .i64 x.id, .int .u64 x.com, .int .u64 x.own, psV x.oth x.z, .slice none 0 0] 86⟩ :: ⟨gr, row [gv ql i, .int .u64 (leftTo size.toNat a xs ps i)] 54⟩ :: (gL ql ((ds.map Prod.fst).flatMap encOn) 86 ++ dL ds)), [PGS pg (Ap, cp), DnA ds, U1 (shL a xs ps) zA, XS xs (some ad, c)]⟩) (fun t => pg.length - t.1) (0, none) ⟨Nat.zero_le _, rfl, rfl⟩ (by
        intro X h
        dsimp only at h
        refine Pw.enter ?_ ?_ X h
        · exact ⟨rfl, rfl, rfl, rfl, rfl, rfl, rfl, rfl, rfl, rfl, rfl, rfl, trivial⟩
        · exact fun w h => allCons (hv w h) (allCons (hv w h) (allCons (hv w h) (allCons (hv w h) allNil)))) ?_
      rintro ⟨j, q⟩ ⟨hj, hqq⟩
      dsimp only at hj hqq ⊢
      repeat (first | refine Pw.runs ?_ | refine Pw.list (Pw.box rfl rfl rfl rfl (fun _ => ?_)) | refine Pw.list (Pw.alloc rfl rfl rfl rfl rfl (fun _ => ?_)))
      refine Pw.condD rfl (fun c8 => ?_) (fun c8 => ?_)
      · have hj0 : (0 : Int) ≤ (j : Int) := Int.natCast_nonneg j
        obtain ⟨⟨pp, Az, cz⟩, hpj, hpjm⟩ := get_at (show j < pg.length by omega)
        have hpS : (pagesS x size.toNat)[j]? = some pp := by rw [← hpg, List.getElem?_map, hpj]; rfl
        have hpm : pp ∈ pagesS x size.toNat := List.mem_of_getElem? hpS
        have hpu := stk_u hxW (k := size.toNat) pp hpm
        have hpn := page_le pp hpm
        have htj : (tots x size.toNat)[j]? = some (sumM (stk pp)).1 := by show (List.map _ _)[j]? = _; rw [List.getElem?_map, hpS]; rfl
        repeat (first | refine Pw.runs ?_ | refine Pw.list (Pw.box rfl rfl rfl rfl (fun _ => ?_)) | refine Pw.list (Pw.alloc rfl rfl rfl rfl rfl (fun _ => ?_)))
        refine Pw.list (Pw.index rfl rfl rfl rfl hj0 c8 (fun w h => (hv w h : PGS pg (Ap, cp) w).has hj0 c8) rfl rfl ?_)
        rintro pd rfl
        refine Pw.list (Pw.loadC (pp, Az, cz) rfl inferInstance rfl (by rw [Int.toNat_natCast]; exact hpj) rfl rfl rfl rfl ?_)
        repeat (first | refine Pw.runs ?_ | refine Pw.list (Pw.box rfl rfl rfl rfl (fun _ => ?_)) | refine Pw.list (Pw.alloc rfl rfl rfl rfl rfl (fun _ => ?_)))
        refine Pw.list (Pw.call (rtotal_ct pp (Az, cz) (by omega) hpu) rfl rfl rfl (by kernel_rfl) rfl rfl (fun w h => ((hv w h : PGS pg (some pd, cp) w).at hpj).2.1) ?_)
        intro _ _
        repeat (first | refine Pw.runs ?_ | refine Pw.list (Pw.box rfl rfl rfl rfl (fun _ => ?_)) | refine Pw.list (Pw.alloc rfl rfl rfl rfl rfl (fun _ => ?_)))
        refine Pw.list (Pw.lit1 rfl rfl rfl rfl rfl rfl rfl rfl rfl (fun g2 => ?_))
        refine freeHead ?_
        refine Pw.list (Pw.push (s := q) (news := [.int .u64 (sumM (stk pp)).1]) rfl rfl rfl rfl rfl rfl rfl hqq rfl (fun u hu => by rw [List.mem_singleton.1 hu]; rfl) (fun w hs j u hu => by
          have h1 : w.heap[g2]? = some (row [.int .u64 (sumM (stk pp)).1] 22) := fact0 hs.all
          rw [add_none, cell_of_blk h1]
          simpa using hu) (by omega) (by simp only [maxLen]; omega) (by show (j + 1) * 8 ≤ _; omega) rfl rfl (fun q' hq' => ?_))
        have e4 : ((tots x size.toNat).take j).map (Value.int .u64) ++ [.int .u64 (sumM (stk pp)).1] = ((tots x size.toNat).take (j + 1)).map (Value.int .u64) := by rw [take_snoc htj]; simp
        rw [e4] at hq' ⊢
        repeat (first | refine Pw.runs ?_ | refine Pw.list (Pw.box rfl rfl rfl rfl (fun _ => ?_)) | refine Pw.list (Pw.alloc rfl rfl rfl rfl rfl (fun _ => ?_)))
        refine Pw.re (d := 151) (v' := .int .i64 ((j + 1 : Nat) : Int)) rfl (congrArg (Value.int .i64) (i64s (n := 1000000) (by omega) (by omega))) ?_
        exact Pw.again (j + 1, q') ⟨by show j + 1 ≤ pg.length; omega, hq'⟩ (by show pg.length - (j + 1) < pg.length - j; omega) ⟨rfl, rfl, rfl, rfl, rfl, rfl, rfl, rfl, rfl, rfl, rfl, rfl, trivial⟩ rfl (fun w h => allCons (hv w h) (allCons (hv w h) (allCons (hv w h) (allCons (hv w h) allNil))))
      obtain rfl : j = pg.length := by omega
      rw [← htl, List.take_length] at hqq ⊢
      refine Pw.freeG hqq (fun At ct et hct => ?_)
      refine Pw.re (d := 25) (v' := sl (tots x size.toNat) (At, ct)) rfl et ?_
      rw [htl]
      have htu : ∀ n ∈ tots x size.toNat, U64 n := fun n hn => by
        obtain ⟨p, hp, rfl⟩ := List.mem_map.1 hn
        exact sumM_u _ (stk_u hxW p hp)
      have hsi : (i : Int) < (((shL a xs ps).length : Nat) : Int) := by omega
      obtain ⟨zA1, zc1⟩ := zA
      have hlo := lefts_ok (k := size.toNat) ha hX hp hpl (i + 1)
      have hln := left_snoc (k := size.toNat) (a := a) (ps := ps) hx hsh
      have hbl : (bud1 size.toNat sh x).1.length = pg.length := by unfold bud1; rw [spF_len]; exact htl
      have ha2 := ha.2
      have hwl : IntKind.u64.wrap (leftTo size.toNat a xs ps i + (bud1 size.toNat sh x).2) = leftTo size.toNat a xs ps (i + 1) := by rw [hln]; exact wu (by omega) (by omega)
      repeat (first | refine Pw.runs ?_ | refine Pw.list (Pw.box rfl rfl rfl rfl (fun _ => ?_)) | refine Pw.list (Pw.alloc rfl rfl rfl rfl rfl (fun _ => ?_)))
      refine Pw.list (Pw.index rfl rfl rfl rfl hi0 hsi (fun w h => (hv w h : U1 (shL a xs ps) (zA1, zc1) w).has hi0 hsi) rfl rfl ?_)
      rintro sd rfl
      refine Pw.list (Pw.load1 rfl rfl (fun w hs => (hv w hs.all : U1 (shL a xs ps) (some sd, zc1) w).cell hi0 hsi) rfl rfl ?_)
      rw [get_rd hsh]
      by_cases hS2 : 0 < lsum (tots x size.toNat) ∧ lsum (tots x size.toNat) ≤ 18446744073709551615
      · have eS2 : bud1 size.toNat sh x = (spL sh (tots x size.toNat), sh - lsum (spL sh (tots x size.toNat))) := if_pos hS2
        repeat (first | refine Pw.runs ?_ | refine Pw.list (Pw.box rfl rfl rfl rfl (fun _ => ?_)) | refine Pw.list (Pw.alloc rfl rfl rfl rfl rfl (fun _ => ?_)))
        refine Pw.list (Pw.call (tSplitOk_ct sh (tots x size.toNat) (At, ct) hsu htu (by omega) hS2.1 hS2.2) rfl rfl rfl (by kernel_rfl) rfl rfl (fun w h => ints_of_cells hct (by simp only [maxLen]; omega) (fact0 h)) ?_)
        intro zB _
        rw [show spL sh (tots x size.toNat) = (bud1 size.toNat sh x).1 by rw [eS2], show sh - lsum (bud1 size.toNat sh x).1 = (bud1 size.toNat sh x).2 by rw [eS2]]
        repeat (first | refine Pw.runs ?_ | refine Pw.list (Pw.box rfl rfl rfl rfl (fun _ => ?_)) | refine Pw.list (Pw.alloc rfl rfl rfl rfl rfl (fun _ => ?_)))
        refine Pw.eqL (L' := ⟨g24, row [.int .i64 x.id, .int .u64 x.com, .int .u64 x.own, psV x.oth x.z, .slice none 0 0] 86⟩ :: ⟨gr, row [gv ql i, .int .u64 (leftTo size.toNat a xs ps (i + 1))] 54⟩ :: (gL ql ((ds.map Prod.fst).flatMap encOn) 86 ++ dL ds)) (by rw [← hwl]; try rfl) ?_
        obtain ⟨zB1, zB2⟩ := zB
        obtain ⟨bud, hbud⟩ : ∃ bud, (bud1 size.toNat sh x).1 = bud := ⟨_, rfl⟩
        rw [hbud] at hbl ⊢
        have hpn1 : 0 < pg.length := by rw [← hpl2]; unfold pagesS; exact Nat.succ_pos _
        have hrl : (rowK pg bud).length = pg.length := rowK_len hbl
        refine Pw.loopJ (σ := Nat × Gr) (fun t => t.1 ≤ pg.length ∧ gOk t.2 (((rowK pg bud).take t.1).flatMap encD) t.1 3) (fun t => ⟨[(1, .slice (some ad) xs.length c), (3, .int .i64 size), (18, .pointer (some ⟨gr, 0, none⟩)), (19, sl (shL a xs ps) (some sd, zc1)), (22, .slice Ap pg.length cp), (24, .pointer (some ⟨g24, 0, none⟩)), (29, sl bud (zB1, zB2)), (131, .int .i64 xs.length), (132, .int .i64 i), (196, .int .i64 pg.length), (197, .int .i64 t.1)], gL t.2 (((rowK pg bud).take t.1).flatMap encD) 46 ++ (⟨g24, row [.int .i64 x.id, .int .u64 x.com, .int .u64 x.own, psV x.oth x.z, gv t.2 t.1] 86⟩ :: ⟨gr, row [gv ql i, .int .u64 (leftTo size.toNat a xs ps (i + 1))] 54⟩ :: (gL ql ((ds.map Prod.fst).flatMap encOn) 86 ++ dL ds)), [PGS pg (Ap, cp), U1 bud (zB1, zB2), DnA ds, U1 (shL a xs ps) (some sd, zc1), XS xs (some ad, c)]⟩) (fun t => pg.length - t.1) (0, none) ⟨Nat.zero_le _, rfl, rfl⟩ (by
          intro X h
          dsimp only at h
          refine Pw.enter ?_ ?_ X h
          · exact ⟨rfl, rfl, rfl, rfl, rfl, rfl, rfl, rfl, rfl, rfl, rfl, trivial⟩
          · exact fun w h => allCons (hv w h) (allCons (hv w h) (allCons (hv w h) (allCons (hv w h) (allCons (hv w h) allNil))))) ?_
        rintro ⟨k, q⟩ ⟨hk, hqk⟩
        dsimp only at hk hqk ⊢
        repeat (first | refine Pw.runs ?_ | refine Pw.list (Pw.box rfl rfl rfl rfl (fun _ => ?_)) | refine Pw.list (Pw.alloc rfl rfl rfl rfl rfl (fun _ => ?_)))
        refine Pw.condD rfl (fun c9 => ?_) (fun c9 => ?_)
        · have hk00 : (0 : Int) ≤ (k : Int) := Int.natCast_nonneg k
          obtain ⟨⟨pp, Az, cz⟩, hpk, _⟩ := get_at (show k < pg.length by omega)
          obtain ⟨b, hbk, _⟩ := get_at (show k < bud.length by omega)
          have c10 : (k : Int) < ((bud.length : Nat) : Int) := by omega
          have hrk : (rowK pg bud)[k]? = some ((pp, Az, cz), b, false) := rowK_get hpk hbk
          refine Pw.use (p := Ap.isSome = true) (fun w h => (fact0 h).has hk00 c9) (fun hA => ?_)
          obtain ⟨pd, rfl⟩ := Option.isSome_iff_exists.1 hA
          refine Pw.use (p := zB1.isSome = true) (fun w h => (fact1 h).has hk00 c10) (fun hA => ?_)
          obtain ⟨bd, rfl⟩ := Option.isSome_iff_exists.1 hA
          have hrdb := get_rd hbk
          repeat (first | refine Pw.runs ?_ | refine Pw.list (Pw.box rfl rfl rfl rfl (fun _ => ?_)) | refine Pw.list (Pw.alloc rfl rfl rfl rfl rfl (fun _ => ?_)))
          refine Pw.drawnG mixed rfl rfl ?_
          refine Pw.takeP 0 (nb 15 1) rfl rfl rfl rfl (by kernel_rfl) np sf ?_
          refine Pw.takeP 2 (nb 15 5) rfl rfl rfl rfl (by kernel_rfl) np sf ?_
          refine Pw.takeP 3 (nb 15 13) rfl rfl rfl rfl (by kernel_rfl) np sf ?_
          refine Pw.takeIx 4 (nb 15 29) rfl rfl rfl rfl rfl (by first | assumption | omega) (by first | assumption | omega) rfl rfl (by kernel_rfl) np sf ?_
          refine Pw.takeLC (pp, Az, cz) 5 (nb 15 61) rfl rfl inferInstance rfl (by rw [Int.toNat_natCast]; exact hpk) rfl rfl rfl rfl (by kernel_rfl) np sf ?_
          refine Pw.takeP 6 (nb 15 125) rfl rfl rfl rfl (by kernel_rfl) np sf ?_
          refine Pw.takeP 7 (nb 15 253) rfl rfl rfl rfl (by kernel_rfl) np sf ?_
          refine Pw.takeIx 8 (nb 15 509) rfl rfl rfl rfl rfl (by first | assumption | omega) (by first | assumption | omega) rfl rfl (by kernel_rfl) np sf ?_
          refine Pw.takeLd 9 (nb 15 1021) rfl rfl rfl (fun w hS => (hv w hS : U1 bud (some bd, zB2) w).cell hk00 c10) rfl rfl (by kernel_rfl) np sf ?_
          rw [hrdb]
          refine Pw.takeBuild 10 (nb 15 2045) rfl rfl rfl rfl rfl (by kernel_rfl) np sf ?_
          refine Pw.two 1 11 (nb 15 2047) (nb 15 4093) rfl rfl (by kernel_rfl) ?_ ?_
          · skip
            refine Pw.loadO (g := g24) (i := 4) (cs := [.int .i64 x.id, .int .u64 x.com, .int .u64 x.own, psV x.oth x.z, gv q k]) (t := 86) rfl rfl (List.mem_append_right _ (.head _)) rfl rfl rfl ?_
            refine Pw.held sf ?_
            refine Pw.one 11 (nb 15 4095) rfl (by kernel_rfl) ?_
            refine Pw.lit13 rfl rfl rfl rfl rfl rfl rfl rfl rfl (fun g2 => freeHead ?_)
            refine Pw.held sf ?_
            refine Pw.one 12 (nb 15 8191) rfl (by kernel_rfl) ?_
            refine Pw.push (s := q) (m := k) (news := encD ((pp, Az, cz), b, false)) rfl rfl rfl rfl rfl rfl rfl hqk rfl (fun u hu => by
              simp only [encD, List.mem_cons, List.not_mem_nil, or_false] at hu
              rcases hu with rfl | rfl | rfl <;> rfl) (fun w hs j u hu => by
              have h1 : w.heap[g2]? = some (row (encD ((pp, Az, cz), b, false)) 46) := fact0 hs.all
              rw [add_none, cell_of_blk h1]
              simpa using hu) (by omega) (by simp only [maxLen]; omega) (by show (k + 1) * 40 ≤ _; omega) rfl rfl (fun q' hq' => ?_)
            have e4 : ((rowK pg bud).take k).flatMap encD ++ encD ((pp, Az, cz), b, false) = ((rowK pg bud).take (k + 1)).flatMap encD := by rw [take_snoc hrk, List.flatMap_append]; simp
            rw [e4] at hq' ⊢
            refine Pw.perm List.perm_middle ?_
            refine Pw.held sf ?_
            refine Pw.takeP 13 (nb 15 16383) rfl rfl rfl rfl (by kernel_rfl) np sf ?_
            refine Pw.one 14 (nb 15 32767) rfl (by kernel_rfl) ?_
            refine Pw.storeO rfl rfl rfl rfl (by cases q' <;> rfl) (by show 4 < 5; omega) rfl .head rfl ?_
            refine Pw.held sf ?_
            refine Pw.done (by kernel_rfl) ?_
            refine Pw.perm List.perm_middle.symm ?_
            repeat (first | refine Pw.runs ?_ | refine Pw.list (Pw.box rfl rfl rfl rfl (fun _ => ?_)) | refine Pw.list (Pw.alloc rfl rfl rfl rfl rfl (fun _ => ?_)))
            refine Pw.re (d := 197) (v' := .int .i64 ((k + 1 : Nat) : Int)) rfl (congrArg (Value.int .i64) (i64s (n := 1000000) (by omega) (by omega))) ?_
            exact Pw.again (k + 1, q') ⟨by show k + 1 ≤ pg.length; omega, hq'⟩ (by show pg.length - (k + 1) < pg.length - k; omega) ⟨rfl, rfl, rfl, rfl, rfl, rfl, rfl, rfl, rfl, rfl, rfl, trivial⟩ rfl (fun w h => allTail h)
          · skip
            refine Pw.lit13 rfl rfl rfl rfl rfl rfl rfl rfl rfl (fun g2 => freeHead ?_)
            refine Pw.held sf ?_
            refine Pw.one 1 (nb 15 4095) rfl (by kernel_rfl) ?_
            refine Pw.loadO (g := g24) (i := 4) (cs := [.int .i64 x.id, .int .u64 x.com, .int .u64 x.own, psV x.oth x.z, gv q k]) (t := 86) rfl rfl (List.mem_append_right _ (.head _)) rfl rfl rfl ?_
            refine Pw.held sf ?_
            refine Pw.one 12 (nb 15 8191) rfl (by kernel_rfl) ?_
            refine Pw.push (s := q) (m := k) (news := encD ((pp, Az, cz), b, false)) rfl rfl rfl rfl rfl rfl rfl hqk rfl (fun u hu => by
              simp only [encD, List.mem_cons, List.not_mem_nil, or_false] at hu
              rcases hu with rfl | rfl | rfl <;> rfl) (fun w hs j u hu => by
              have h1 : w.heap[g2]? = some (row (encD ((pp, Az, cz), b, false)) 46) := fact0 hs.all
              rw [add_none, cell_of_blk h1]
              simpa using hu) (by omega) (by simp only [maxLen]; omega) (by show (k + 1) * 40 ≤ _; omega) rfl rfl (fun q' hq' => ?_)
            have e4 : ((rowK pg bud).take k).flatMap encD ++ encD ((pp, Az, cz), b, false) = ((rowK pg bud).take (k + 1)).flatMap encD := by rw [take_snoc hrk, List.flatMap_append]; simp
            rw [e4] at hq' ⊢
            refine Pw.perm List.perm_middle ?_
            refine Pw.held sf ?_
            refine Pw.takeP 13 (nb 15 16383) rfl rfl rfl rfl (by kernel_rfl) np sf ?_
            refine Pw.one 14 (nb 15 32767) rfl (by kernel_rfl) ?_
            refine Pw.storeO rfl rfl rfl rfl (by cases q' <;> rfl) (by show 4 < 5; omega) rfl .head rfl ?_
            refine Pw.held sf ?_
            refine Pw.done (by kernel_rfl) ?_
            refine Pw.perm List.perm_middle.symm ?_
            repeat (first | refine Pw.runs ?_ | refine Pw.list (Pw.box rfl rfl rfl rfl (fun _ => ?_)) | refine Pw.list (Pw.alloc rfl rfl rfl rfl rfl (fun _ => ?_)))
            refine Pw.re (d := 197) (v' := .int .i64 ((k + 1 : Nat) : Int)) rfl (congrArg (Value.int .i64) (i64s (n := 1000000) (by omega) (by omega))) ?_
            exact Pw.again (k + 1, q') ⟨by show k + 1 ≤ pg.length; omega, hq'⟩ (by show pg.length - (k + 1) < pg.length - k; omega) ⟨rfl, rfl, rfl, rfl, rfl, rfl, rfl, rfl, rfl, rfl, rfl, trivial⟩ rfl (fun w h => allTail h)
        obtain rfl : k = pg.length := by omega
        rw [show (rowK pg bud).take pg.length = rowK pg bud by rw [← hrl, List.take_length]] at hqk ⊢
        rcases q with _ | ⟨gp, cap, ex⟩
        · exact absurd hqk.1 (by omega)
        refine Pw.use (p := Ap.isSome = true) (fun w h => (hv w h : PGS pg (Ap, cp) w).has (i := 0) (Int.le_refl 0) (by omega)) (fun hA => ?_)
        obtain ⟨pad, rfl⟩ := Option.isSome_iff_exists.1 hA
        obtain ⟨d, hd⟩ : ∃ d : Dn × List Bool, d = (⟨x, pg, bud, gp, cap, ex⟩, List.replicate pg.length false) := ⟨_, rfl⟩
        refine Pw.eqL (L' := dB d :: ⟨g24, row (encOn d.1) 86⟩ :: ⟨gr, row [gv ql i, .int .u64 (leftTo size.toNat a xs ps (i + 1))] 54⟩ :: (gL ql ((ds.map Prod.fst).flatMap encOn) 86 ++ dL ds)) (by rw [hd]; rfl) ?_
        refine Pw.perm (List.Perm.swap _ _ _) ?_
        refine freeHead ?_
        refine Pw.perm perm2X ?_
        have hdB : DnB size.toNat x sh d := by rw [hd]; exact ⟨rfl, hpg, hbud.symm, rfl⟩
        have hpgP : ∀ w, PGS pg (some pad, cp) w → heldOn d.1 w := fun w h p hp => by
          rw [hd] at hp
          obtain ⟨j, hj⟩ := List.getElem?_of_mem hp
          have hj : pg[j]? = some p := hj
          exact (h.at hj).2.1
        refine Pw.facts (G' := [fun W => W.heap[g24]? = some (row (encOn d.1) 86), heldOn d.1, DnA ds, U1 (shL a xs ps) (some sd, zc1), XS xs (some ad, c)]) (fun w h => allCons (fact0 h) (allCons (hpgP w (hv w h : PGS pg (some pad, cp) w)) (allCons (hv w h) (allCons (hv w h) (allCons (hv w h) allNil))))) ?_
        repeat (first | refine Pw.runs ?_ | refine Pw.list (Pw.box rfl rfl rfl rfl (fun _ => ?_)) | refine Pw.list (Pw.alloc rfl rfl rfl rfl rfl (fun _ => ?_)))
        refine Pw.drawnG mixed rfl rfl ?_
        refine Pw.takeP 0 (nb 11 1) rfl rfl rfl rfl (by kernel_rfl) np sf ?_
        refine Pw.takeP 1 (nb 11 3) rfl rfl rfl rfl (by kernel_rfl) np sf ?_
        refine Pw.takeP 2 (nb 11 7) rfl rfl rfl rfl (by kernel_rfl) np sf ?_
        refine Pw.takeP 3 (nb 11 15) rfl rfl rfl rfl (by kernel_rfl) np sf ?_
        refine Pw.takeF 5 (nb 11 47) rfl rfl inferInstance rfl rfl rfl (by kernel_rfl) np sf ?_
        refine Pw.two 4 6 (nb 11 63) (nb 11 111) rfl rfl (by kernel_rfl) ?_ ?_
        · skip
          refine Pw.loadO (g := gr) (i := 0) (cs := [gv ql i, .int .u64 (leftTo size.toNat a xs ps (i + 1))]) (t := 54) rfl rfl (List.mem_append_right _ (.head _)) rfl rfl rfl ?_
          refine Pw.held sf ?_
          refine Pw.one 6 (nb 11 127) rfl (by kernel_rfl) ?_
          refine Pw.lit15 rfl rfl rfl rfl rfl rfl rfl rfl rfl (fun g2 => freeHead ?_)
          refine Pw.held sf ?_
          refine Pw.one 7 (nb 11 255) rfl (by kernel_rfl) ?_
          refine Pw.push (s := ql) (m := i) (news := encOn d.1) rfl rfl rfl rfl rfl rfl rfl hql rfl (fun u hu => by
            simp only [encOn, List.mem_cons, List.not_mem_nil, or_false] at hu
            rcases hu with rfl | rfl | rfl | rfl | rfl <;> rfl) (fun w hs j u hu => by
            have h1 : w.heap[g2]? = some (row (encOn d.1) 86) := fact0 hs.all
            rw [add_none, cell_of_blk h1]
            simpa using hu) (by omega) (by simp only [maxLen]; omega) (by show (i + 1) * 72 ≤ _; omega) rfl rfl (fun ql' hql' => ?_)
          refine Pw.perm List.perm_middle ?_
          refine Pw.held sf ?_
          refine Pw.takeP 8 (nb 11 511) rfl rfl rfl rfl (by kernel_rfl) np sf ?_
          refine Pw.takeP 9 (nb 11 1023) rfl rfl rfl rfl (by kernel_rfl) np sf ?_
          refine Pw.one 10 (nb 11 2047) rfl (by kernel_rfl) ?_
          refine Pw.storeO rfl rfl rfl rfl (by cases ql' <;> rfl) (by show 0 < 2; omega) rfl .head rfl ?_
          refine Pw.held sf ?_
          refine Pw.done (by kernel_rfl) ?_
          have e6 : (ds.map Prod.fst).flatMap encOn ++ encOn d.1 = ((ds ++ [d]).map Prod.fst).flatMap encOn := by rw [List.map_append, List.flatMap_append]; simp
          rw [e6] at hql' ⊢
          refine Pw.perm (permEd d ds) ?_
          repeat (first | refine Pw.runs ?_ | refine Pw.list (Pw.box rfl rfl rfl rfl (fun _ => ?_)) | refine Pw.list (Pw.alloc rfl rfl rfl rfl rfl (fun _ => ?_)))
          refine Pw.re (d := 132) (v' := .int .i64 ((i + 1 : Nat) : Int)) rfl (congrArg (Value.int .i64) (i64s (n := 1000000) (by omega) (by omega))) ?_
          exact Pw.again (i + 1, ql', ds ++ [d]) ⟨by show i + 1 ≤ xs.length; omega, ⟨by show (ds ++ [d]).length = i + 1; rw [List.length_append, hds.1]; rfl, fun j d' hj => by
            rcases Nat.lt_or_ge j ds.length with h | h
            · rw [List.getElem?_append_left h] at hj
              exact hds.2 j d' hj
            · have hj2 : j < (ds ++ [d]).length := (List.getElem?_eq_some_iff.1 hj).1
              rw [List.length_append, List.length_singleton] at hj2
              obtain rfl : j = ds.length := by omega
              rw [List.getElem?_concat_length] at hj
              obtain rfl := Option.some.inj hj
              have hi2 := hds.1
              rw [hi2]
              exact ⟨x, sh, hx, hsh, hdB⟩⟩, hql'⟩ (by show xs.length - (i + 1) < xs.length - i; omega) ⟨rfl, rfl, rfl, rfl, rfl, rfl, trivial⟩ rfl (fun w h => allCons (fun d' hd' => by
            rcases List.mem_append.1 hd' with h1 | h1
            · exact (hv w h : DnA ds w) d' h1
            · rw [List.mem_singleton.1 h1]; exact (hv w h : heldOn d.1 w)) (allCons (hv w h) (allCons (hv w h) allNil)))
        · skip
          refine Pw.lit15 rfl rfl rfl rfl rfl rfl rfl rfl rfl (fun g2 => freeHead ?_)
          refine Pw.held sf ?_
          refine Pw.one 4 (nb 11 127) rfl (by kernel_rfl) ?_
          refine Pw.loadO (g := gr) (i := 0) (cs := [gv ql i, .int .u64 (leftTo size.toNat a xs ps (i + 1))]) (t := 54) rfl rfl (List.mem_append_right _ (.head _)) rfl rfl rfl ?_
          refine Pw.held sf ?_
          refine Pw.one 7 (nb 11 255) rfl (by kernel_rfl) ?_
          refine Pw.push (s := ql) (m := i) (news := encOn d.1) rfl rfl rfl rfl rfl rfl rfl hql rfl (fun u hu => by
            simp only [encOn, List.mem_cons, List.not_mem_nil, or_false] at hu
            rcases hu with rfl | rfl | rfl | rfl | rfl <;> rfl) (fun w hs j u hu => by
            have h1 : w.heap[g2]? = some (row (encOn d.1) 86) := fact0 hs.all
            rw [add_none, cell_of_blk h1]
            simpa using hu) (by omega) (by simp only [maxLen]; omega) (by show (i + 1) * 72 ≤ _; omega) rfl rfl (fun ql' hql' => ?_)
          refine Pw.perm List.perm_middle ?_
          refine Pw.held sf ?_
          refine Pw.takeP 8 (nb 11 511) rfl rfl rfl rfl (by kernel_rfl) np sf ?_
          refine Pw.takeP 9 (nb 11 1023) rfl rfl rfl rfl (by kernel_rfl) np sf ?_
          refine Pw.one 10 (nb 11 2047) rfl (by kernel_rfl) ?_
          refine Pw.storeO rfl rfl rfl rfl (by cases ql' <;> rfl) (by show 0 < 2; omega) rfl .head rfl ?_
          refine Pw.held sf ?_
          refine Pw.done (by kernel_rfl) ?_
          have e6 : (ds.map Prod.fst).flatMap encOn ++ encOn d.1 = ((ds ++ [d]).map Prod.fst).flatMap encOn := by rw [List.map_append, List.flatMap_append]; simp
          rw [e6] at hql' ⊢
          refine Pw.perm (permEd d ds) ?_
          repeat (first | refine Pw.runs ?_ | refine Pw.list (Pw.box rfl rfl rfl rfl (fun _ => ?_)) | refine Pw.list (Pw.alloc rfl rfl rfl rfl rfl (fun _ => ?_)))
          refine Pw.re (d := 132) (v' := .int .i64 ((i + 1 : Nat) : Int)) rfl (congrArg (Value.int .i64) (i64s (n := 1000000) (by omega) (by omega))) ?_
          exact Pw.again (i + 1, ql', ds ++ [d]) ⟨by show i + 1 ≤ xs.length; omega, ⟨by show (ds ++ [d]).length = i + 1; rw [List.length_append, hds.1]; rfl, fun j d' hj => by
            rcases Nat.lt_or_ge j ds.length with h | h
            · rw [List.getElem?_append_left h] at hj
              exact hds.2 j d' hj
            · have hj2 : j < (ds ++ [d]).length := (List.getElem?_eq_some_iff.1 hj).1
              rw [List.length_append, List.length_singleton] at hj2
              obtain rfl : j = ds.length := by omega
              rw [List.getElem?_concat_length] at hj
              obtain rfl := Option.some.inj hj
              have hi2 := hds.1
              rw [hi2]
              exact ⟨x, sh, hx, hsh, hdB⟩⟩, hql'⟩ (by show xs.length - (i + 1) < xs.length - i; omega) ⟨rfl, rfl, rfl, rfl, rfl, rfl, trivial⟩ rfl (fun w h => allCons (fun d' hd' => by
            rcases List.mem_append.1 hd' with h1 | h1
            · exact (hv w h : DnA ds w) d' h1
            · rw [List.mem_singleton.1 h1]; exact (hv w h : heldOn d.1 w)) (allCons (hv w h) (allCons (hv w h) allNil)))
      · have eS2 : bud1 size.toNat sh x = (List.replicate pg.length 0, sh) := by
          unfold bud1 spF
          rw [if_neg hS2, List.map_const']
          rw [show ((pagesS x size.toNat).map (fun p => (sumM (stk p)).1)).length = pg.length from htl]
        have hne2 : ¬ ((if lsum (tots x size.toNat) ≤ 18446744073709551615 then 5 else 3 : Int) = 0) := by split <;> omega
        have hlr2 : (List.replicate pg.length (0 : Int)).length = pg.length := List.length_replicate
        have hrds := get_rd hsh
        repeat (first | refine Pw.runs ?_ | refine Pw.list (Pw.box rfl rfl rfl rfl (fun _ => ?_)) | refine Pw.list (Pw.alloc rfl rfl rfl rfl rfl (fun _ => ?_)))
        refine Pw.list (Pw.call (tSplitErr_ct sh (tots x size.toNat) (At, ct) htu hS2) rfl rfl rfl (by kernel_rfl) rfl rfl (fun w h => ints_of_cells hct (by simp only [maxLen]; omega) (fact0 h)) ?_)
        intro _ _
        repeat (first | refine Pw.runs ?_ | refine Pw.list (Pw.box rfl rfl rfl rfl (fun _ => ?_)) | refine Pw.list (Pw.alloc rfl rfl rfl rfl rfl (fun _ => ?_)))
        refine Pw.joinF (σ := Nat) (fun _ => True) (fun g => ⟨[(1, .slice (some ad) xs.length c), (3, .int .i64 size), (18, .pointer (some ⟨gr, 0, none⟩)), (19, sl (shL a xs ps) (some sd, zc1)), (22, .slice Ap pg.length cp), (24, .pointer (some ⟨g24, 0, none⟩)), (29, sl (bud1 size.toNat sh x).1 (some ⟨g, 0, none⟩, pg.length)), (30, .int .u64 (bud1 size.toNat sh x).2), (131, .int .i64 xs.length), (132, .int .i64 i)], ⟨g24, row [.int .i64 x.id, .int .u64 x.com, .int .u64 x.own, psV x.oth x.z, .slice none 0 0] 86⟩ :: ⟨gr, row [gv ql i, .int .u64 (leftTo size.toNat a xs ps i)] 54⟩ :: (gL ql ((ds.map Prod.fst).flatMap encOn) 86 ++ dL ds), [U1 (bud1 size.toNat sh x).1 (some ⟨g, 0, none⟩, pg.length), PGS pg (Ap, cp), DnA ds, U1 (shL a xs ps) (some sd, zc1), XS xs (some ad, c)]⟩) ?_ ?_
        · refine Pw.condD rfl (fun c1 => ?_) (fun c1 => absurd c1 (by simpa using hne2))
          repeat (first | refine Pw.runs ?_ | refine Pw.list (Pw.box rfl rfl rfl rfl (fun _ => ?_)) | refine Pw.list (Pw.alloc rfl rfl rfl rfl rfl (fun _ => ?_)))
          refine Pw.drawnG mixed rfl rfl ?_
          refine Pw.takeP 0 (nb 9 1) rfl rfl rfl rfl (by kernel_rfl) np sf ?_
          refine Pw.takeP 1 (nb 9 3) rfl rfl rfl rfl (by kernel_rfl) np sf ?_
          refine Pw.takeP 3 (nb 9 11) rfl rfl rfl rfl (by kernel_rfl) np sf ?_
          refine Pw.takeP 4 (nb 9 27) rfl rfl rfl rfl (by kernel_rfl) np sf ?_
          refine Pw.takeIx 5 (nb 9 59) rfl rfl rfl rfl rfl (by first | assumption | omega) (by first | assumption | omega) rfl rfl (by kernel_rfl) np sf ?_
          refine Pw.takeLd 6 (nb 9 123) rfl rfl rfl (fun w hS => (hv w hS : U1 (shL a xs ps) (some sd, zc1) w).cell hi0 hsi) rfl rfl (by kernel_rfl) np sf ?_
          rw [hrds]
          refine Pw.one 2 (nb 9 127) rfl (by kernel_rfl) ?_
          refine Pw.make (m := pg.length) rfl rfl rfl rfl rfl rfl (by show 8 * pg.length ≤ _; omega) (by simp only [maxLen]; omega) rfl rfl (fun g => freeHead ?_)
          refine Pw.held sf ?_
          refine Pw.takeP 7 (nb 9 255) rfl rfl rfl rfl (by kernel_rfl) np sf ?_
          refine Pw.takeP 8 (nb 9 511) rfl rfl rfl rfl (by kernel_rfl) np sf ?_
          refine Pw.done (by kernel_rfl) ?_
          skip
          repeat (first | refine Pw.runs ?_ | refine Pw.list (Pw.box rfl rfl rfl rfl (fun _ => ?_)) | refine Pw.list (Pw.alloc rfl rfl rfl rfl rfl (fun _ => ?_)))
          refine Pw.re (d := 30) (v' := .int .u64 (bud1 size.toNat sh x).2) rfl (by rw [eS2]) ?_
          refine Pw.re (d := 29) (v' := sl (bud1 size.toNat sh x).1 (some ⟨g, 0, none⟩, pg.length)) rfl (by rw [eS2]; show Value.slice _ pg.length _ = .slice _ (List.replicate pg.length (0 : Int)).length _; rw [hlr2]) ?_
          exact Pw.arrive g trivial ⟨rfl, rfl, rfl, rfl, rfl, rfl, rfl, rfl, rfl, rfl, trivial⟩ rfl (fun w h => allCons (by rw [eS2]; exact ints_of_row' (l := List.replicate pg.length 0) (by have := fact0 h; simpa using this) (by rw [hlr2]; exact Nat.le_refl _) (by rw [hlr2]; simp only [maxLen]; omega)) (allCons (hv w h) (allCons (hv w h) (allCons (hv w h) (allCons (hv w h) allNil)))))
        intro g _
        dsimp only
        obtain ⟨zB, hzB⟩ : ∃ z : Option Addr × Nat, (some ⟨g, 0, none⟩, pg.length) = z := ⟨_, rfl⟩
        rw [hzB]
        obtain ⟨zB1, zB2⟩ := zB
        repeat (first | refine Pw.runs ?_ | refine Pw.list (Pw.box rfl rfl rfl rfl (fun _ => ?_)) | refine Pw.list (Pw.alloc rfl rfl rfl rfl rfl (fun _ => ?_)))
        refine Pw.eqL (L' := ⟨g24, row [.int .i64 x.id, .int .u64 x.com, .int .u64 x.own, psV x.oth x.z, .slice none 0 0] 86⟩ :: ⟨gr, row [gv ql i, .int .u64 (leftTo size.toNat a xs ps (i + 1))] 54⟩ :: (gL ql ((ds.map Prod.fst).flatMap encOn) 86 ++ dL ds)) (by rw [← hwl]; try rfl) ?_
        obtain ⟨bud, hbud⟩ : ∃ bud, (bud1 size.toNat sh x).1 = bud := ⟨_, rfl⟩
        rw [hbud] at hbl ⊢
        have hpn1 : 0 < pg.length := by rw [← hpl2]; unfold pagesS; exact Nat.succ_pos _
        have hrl : (rowK pg bud).length = pg.length := rowK_len hbl
        refine Pw.loopJ (σ := Nat × Gr) (fun t => t.1 ≤ pg.length ∧ gOk t.2 (((rowK pg bud).take t.1).flatMap encD) t.1 3) (fun t => ⟨[(1, .slice (some ad) xs.length c), (3, .int .i64 size), (18, .pointer (some ⟨gr, 0, none⟩)), (19, sl (shL a xs ps) (some sd, zc1)), (22, .slice Ap pg.length cp), (24, .pointer (some ⟨g24, 0, none⟩)), (29, sl bud (zB1, zB2)), (131, .int .i64 xs.length), (132, .int .i64 i), (196, .int .i64 pg.length), (197, .int .i64 t.1)], gL t.2 (((rowK pg bud).take t.1).flatMap encD) 46 ++ (⟨g24, row [.int .i64 x.id, .int .u64 x.com, .int .u64 x.own, psV x.oth x.z, gv t.2 t.1] 86⟩ :: ⟨gr, row [gv ql i, .int .u64 (leftTo size.toNat a xs ps (i + 1))] 54⟩ :: (gL ql ((ds.map Prod.fst).flatMap encOn) 86 ++ dL ds)), [PGS pg (Ap, cp), U1 bud (zB1, zB2), DnA ds, U1 (shL a xs ps) (some sd, zc1), XS xs (some ad, c)]⟩) (fun t => pg.length - t.1) (0, none) ⟨Nat.zero_le _, rfl, rfl⟩ (by
          intro X h
          dsimp only at h
          refine Pw.enter ?_ ?_ X h
          · exact ⟨rfl, rfl, rfl, rfl, rfl, rfl, rfl, rfl, rfl, rfl, rfl, trivial⟩
          · exact fun w h => allCons (hv w h) (allCons (hv w h) (allCons (hv w h) (allCons (hv w h) (allCons (hv w h) allNil))))) ?_
        rintro ⟨k, q⟩ ⟨hk, hqk⟩
        dsimp only at hk hqk ⊢
        repeat (first | refine Pw.runs ?_ | refine Pw.list (Pw.box rfl rfl rfl rfl (fun _ => ?_)) | refine Pw.list (Pw.alloc rfl rfl rfl rfl rfl (fun _ => ?_)))
        refine Pw.condD rfl (fun c9 => ?_) (fun c9 => ?_)
        · have hk00 : (0 : Int) ≤ (k : Int) := Int.natCast_nonneg k
          obtain ⟨⟨pp, Az, cz⟩, hpk, _⟩ := get_at (show k < pg.length by omega)
          obtain ⟨b, hbk, _⟩ := get_at (show k < bud.length by omega)
          have c10 : (k : Int) < ((bud.length : Nat) : Int) := by omega
          have hrk : (rowK pg bud)[k]? = some ((pp, Az, cz), b, false) := rowK_get hpk hbk
          refine Pw.use (p := Ap.isSome = true) (fun w h => (fact0 h).has hk00 c9) (fun hA => ?_)
          obtain ⟨pd, rfl⟩ := Option.isSome_iff_exists.1 hA
          refine Pw.use (p := zB1.isSome = true) (fun w h => (fact1 h).has hk00 c10) (fun hA => ?_)
          obtain ⟨bd, rfl⟩ := Option.isSome_iff_exists.1 hA
          have hrdb := get_rd hbk
          repeat (first | refine Pw.runs ?_ | refine Pw.list (Pw.box rfl rfl rfl rfl (fun _ => ?_)) | refine Pw.list (Pw.alloc rfl rfl rfl rfl rfl (fun _ => ?_)))
          refine Pw.drawnG mixed rfl rfl ?_
          refine Pw.takeP 0 (nb 15 1) rfl rfl rfl rfl (by kernel_rfl) np sf ?_
          refine Pw.takeP 2 (nb 15 5) rfl rfl rfl rfl (by kernel_rfl) np sf ?_
          refine Pw.takeP 3 (nb 15 13) rfl rfl rfl rfl (by kernel_rfl) np sf ?_
          refine Pw.takeIx 4 (nb 15 29) rfl rfl rfl rfl rfl (by first | assumption | omega) (by first | assumption | omega) rfl rfl (by kernel_rfl) np sf ?_
          refine Pw.takeLC (pp, Az, cz) 5 (nb 15 61) rfl rfl inferInstance rfl (by rw [Int.toNat_natCast]; exact hpk) rfl rfl rfl rfl (by kernel_rfl) np sf ?_
          refine Pw.takeP 6 (nb 15 125) rfl rfl rfl rfl (by kernel_rfl) np sf ?_
          refine Pw.takeP 7 (nb 15 253) rfl rfl rfl rfl (by kernel_rfl) np sf ?_
          refine Pw.takeIx 8 (nb 15 509) rfl rfl rfl rfl rfl (by first | assumption | omega) (by first | assumption | omega) rfl rfl (by kernel_rfl) np sf ?_
          refine Pw.takeLd 9 (nb 15 1021) rfl rfl rfl (fun w hS => (hv w hS : U1 bud (some bd, zB2) w).cell hk00 c10) rfl rfl (by kernel_rfl) np sf ?_
          rw [hrdb]
          refine Pw.takeBuild 10 (nb 15 2045) rfl rfl rfl rfl rfl (by kernel_rfl) np sf ?_
          refine Pw.two 1 11 (nb 15 2047) (nb 15 4093) rfl rfl (by kernel_rfl) ?_ ?_
          · skip
            refine Pw.loadO (g := g24) (i := 4) (cs := [.int .i64 x.id, .int .u64 x.com, .int .u64 x.own, psV x.oth x.z, gv q k]) (t := 86) rfl rfl (List.mem_append_right _ (.head _)) rfl rfl rfl ?_
            refine Pw.held sf ?_
            refine Pw.one 11 (nb 15 4095) rfl (by kernel_rfl) ?_
            refine Pw.lit13 rfl rfl rfl rfl rfl rfl rfl rfl rfl (fun g2 => freeHead ?_)
            refine Pw.held sf ?_
            refine Pw.one 12 (nb 15 8191) rfl (by kernel_rfl) ?_
            refine Pw.push (s := q) (m := k) (news := encD ((pp, Az, cz), b, false)) rfl rfl rfl rfl rfl rfl rfl hqk rfl (fun u hu => by
              simp only [encD, List.mem_cons, List.not_mem_nil, or_false] at hu
              rcases hu with rfl | rfl | rfl <;> rfl) (fun w hs j u hu => by
              have h1 : w.heap[g2]? = some (row (encD ((pp, Az, cz), b, false)) 46) := fact0 hs.all
              rw [add_none, cell_of_blk h1]
              simpa using hu) (by omega) (by simp only [maxLen]; omega) (by show (k + 1) * 40 ≤ _; omega) rfl rfl (fun q' hq' => ?_)
            have e4 : ((rowK pg bud).take k).flatMap encD ++ encD ((pp, Az, cz), b, false) = ((rowK pg bud).take (k + 1)).flatMap encD := by rw [take_snoc hrk, List.flatMap_append]; simp
            rw [e4] at hq' ⊢
            refine Pw.perm List.perm_middle ?_
            refine Pw.held sf ?_
            refine Pw.takeP 13 (nb 15 16383) rfl rfl rfl rfl (by kernel_rfl) np sf ?_
            refine Pw.one 14 (nb 15 32767) rfl (by kernel_rfl) ?_
            refine Pw.storeO rfl rfl rfl rfl (by cases q' <;> rfl) (by show 4 < 5; omega) rfl .head rfl ?_
            refine Pw.held sf ?_
            refine Pw.done (by kernel_rfl) ?_
            refine Pw.perm List.perm_middle.symm ?_
            repeat (first | refine Pw.runs ?_ | refine Pw.list (Pw.box rfl rfl rfl rfl (fun _ => ?_)) | refine Pw.list (Pw.alloc rfl rfl rfl rfl rfl (fun _ => ?_)))
            refine Pw.re (d := 197) (v' := .int .i64 ((k + 1 : Nat) : Int)) rfl (congrArg (Value.int .i64) (i64s (n := 1000000) (by omega) (by omega))) ?_
            exact Pw.again (k + 1, q') ⟨by show k + 1 ≤ pg.length; omega, hq'⟩ (by show pg.length - (k + 1) < pg.length - k; omega) ⟨rfl, rfl, rfl, rfl, rfl, rfl, rfl, rfl, rfl, rfl, rfl, trivial⟩ rfl (fun w h => allTail h)
          · skip
            refine Pw.lit13 rfl rfl rfl rfl rfl rfl rfl rfl rfl (fun g2 => freeHead ?_)
            refine Pw.held sf ?_
            refine Pw.one 1 (nb 15 4095) rfl (by kernel_rfl) ?_
            refine Pw.loadO (g := g24) (i := 4) (cs := [.int .i64 x.id, .int .u64 x.com, .int .u64 x.own, psV x.oth x.z, gv q k]) (t := 86) rfl rfl (List.mem_append_right _ (.head _)) rfl rfl rfl ?_
            refine Pw.held sf ?_
            refine Pw.one 12 (nb 15 8191) rfl (by kernel_rfl) ?_
            refine Pw.push (s := q) (m := k) (news := encD ((pp, Az, cz), b, false)) rfl rfl rfl rfl rfl rfl rfl hqk rfl (fun u hu => by
              simp only [encD, List.mem_cons, List.not_mem_nil, or_false] at hu
              rcases hu with rfl | rfl | rfl <;> rfl) (fun w hs j u hu => by
              have h1 : w.heap[g2]? = some (row (encD ((pp, Az, cz), b, false)) 46) := fact0 hs.all
              rw [add_none, cell_of_blk h1]
              simpa using hu) (by omega) (by simp only [maxLen]; omega) (by show (k + 1) * 40 ≤ _; omega) rfl rfl (fun q' hq' => ?_)
            have e4 : ((rowK pg bud).take k).flatMap encD ++ encD ((pp, Az, cz), b, false) = ((rowK pg bud).take (k + 1)).flatMap encD := by rw [take_snoc hrk, List.flatMap_append]; simp
            rw [e4] at hq' ⊢
            refine Pw.perm List.perm_middle ?_
            refine Pw.held sf ?_
            refine Pw.takeP 13 (nb 15 16383) rfl rfl rfl rfl (by kernel_rfl) np sf ?_
            refine Pw.one 14 (nb 15 32767) rfl (by kernel_rfl) ?_
            refine Pw.storeO rfl rfl rfl rfl (by cases q' <;> rfl) (by show 4 < 5; omega) rfl .head rfl ?_
            refine Pw.held sf ?_
            refine Pw.done (by kernel_rfl) ?_
            refine Pw.perm List.perm_middle.symm ?_
            repeat (first | refine Pw.runs ?_ | refine Pw.list (Pw.box rfl rfl rfl rfl (fun _ => ?_)) | refine Pw.list (Pw.alloc rfl rfl rfl rfl rfl (fun _ => ?_)))
            refine Pw.re (d := 197) (v' := .int .i64 ((k + 1 : Nat) : Int)) rfl (congrArg (Value.int .i64) (i64s (n := 1000000) (by omega) (by omega))) ?_
            exact Pw.again (k + 1, q') ⟨by show k + 1 ≤ pg.length; omega, hq'⟩ (by show pg.length - (k + 1) < pg.length - k; omega) ⟨rfl, rfl, rfl, rfl, rfl, rfl, rfl, rfl, rfl, rfl, rfl, trivial⟩ rfl (fun w h => allTail h)
        obtain rfl : k = pg.length := by omega
        rw [show (rowK pg bud).take pg.length = rowK pg bud by rw [← hrl, List.take_length]] at hqk ⊢
        rcases q with _ | ⟨gp, cap, ex⟩
        · exact absurd hqk.1 (by omega)
        refine Pw.use (p := Ap.isSome = true) (fun w h => (hv w h : PGS pg (Ap, cp) w).has (i := 0) (Int.le_refl 0) (by omega)) (fun hA => ?_)
        obtain ⟨pad, rfl⟩ := Option.isSome_iff_exists.1 hA
        obtain ⟨d, hd⟩ : ∃ d : Dn × List Bool, d = (⟨x, pg, bud, gp, cap, ex⟩, List.replicate pg.length false) := ⟨_, rfl⟩
        refine Pw.eqL (L' := dB d :: ⟨g24, row (encOn d.1) 86⟩ :: ⟨gr, row [gv ql i, .int .u64 (leftTo size.toNat a xs ps (i + 1))] 54⟩ :: (gL ql ((ds.map Prod.fst).flatMap encOn) 86 ++ dL ds)) (by rw [hd]; rfl) ?_
        refine Pw.perm (List.Perm.swap _ _ _) ?_
        refine freeHead ?_
        refine Pw.perm perm2X ?_
        have hdB : DnB size.toNat x sh d := by rw [hd]; exact ⟨rfl, hpg, hbud.symm, rfl⟩
        have hpgP : ∀ w, PGS pg (some pad, cp) w → heldOn d.1 w := fun w h p hp => by
          rw [hd] at hp
          obtain ⟨j, hj⟩ := List.getElem?_of_mem hp
          have hj : pg[j]? = some p := hj
          exact (h.at hj).2.1
        refine Pw.facts (G' := [fun W => W.heap[g24]? = some (row (encOn d.1) 86), heldOn d.1, DnA ds, U1 (shL a xs ps) (some sd, zc1), XS xs (some ad, c)]) (fun w h => allCons (fact0 h) (allCons (hpgP w (hv w h : PGS pg (some pad, cp) w)) (allCons (hv w h) (allCons (hv w h) (allCons (hv w h) allNil))))) ?_
        repeat (first | refine Pw.runs ?_ | refine Pw.list (Pw.box rfl rfl rfl rfl (fun _ => ?_)) | refine Pw.list (Pw.alloc rfl rfl rfl rfl rfl (fun _ => ?_)))
        refine Pw.drawnG mixed rfl rfl ?_
        refine Pw.takeP 0 (nb 11 1) rfl rfl rfl rfl (by kernel_rfl) np sf ?_
        refine Pw.takeP 1 (nb 11 3) rfl rfl rfl rfl (by kernel_rfl) np sf ?_
        refine Pw.takeP 2 (nb 11 7) rfl rfl rfl rfl (by kernel_rfl) np sf ?_
        refine Pw.takeP 3 (nb 11 15) rfl rfl rfl rfl (by kernel_rfl) np sf ?_
        refine Pw.takeF 5 (nb 11 47) rfl rfl inferInstance rfl rfl rfl (by kernel_rfl) np sf ?_
        refine Pw.two 4 6 (nb 11 63) (nb 11 111) rfl rfl (by kernel_rfl) ?_ ?_
        · skip
          refine Pw.loadO (g := gr) (i := 0) (cs := [gv ql i, .int .u64 (leftTo size.toNat a xs ps (i + 1))]) (t := 54) rfl rfl (List.mem_append_right _ (.head _)) rfl rfl rfl ?_
          refine Pw.held sf ?_
          refine Pw.one 6 (nb 11 127) rfl (by kernel_rfl) ?_
          refine Pw.lit15 rfl rfl rfl rfl rfl rfl rfl rfl rfl (fun g2 => freeHead ?_)
          refine Pw.held sf ?_
          refine Pw.one 7 (nb 11 255) rfl (by kernel_rfl) ?_
          refine Pw.push (s := ql) (m := i) (news := encOn d.1) rfl rfl rfl rfl rfl rfl rfl hql rfl (fun u hu => by
            simp only [encOn, List.mem_cons, List.not_mem_nil, or_false] at hu
            rcases hu with rfl | rfl | rfl | rfl | rfl <;> rfl) (fun w hs j u hu => by
            have h1 : w.heap[g2]? = some (row (encOn d.1) 86) := fact0 hs.all
            rw [add_none, cell_of_blk h1]
            simpa using hu) (by omega) (by simp only [maxLen]; omega) (by show (i + 1) * 72 ≤ _; omega) rfl rfl (fun ql' hql' => ?_)
          refine Pw.perm List.perm_middle ?_
          refine Pw.held sf ?_
          refine Pw.takeP 8 (nb 11 511) rfl rfl rfl rfl (by kernel_rfl) np sf ?_
          refine Pw.takeP 9 (nb 11 1023) rfl rfl rfl rfl (by kernel_rfl) np sf ?_
          refine Pw.one 10 (nb 11 2047) rfl (by kernel_rfl) ?_
          refine Pw.storeO rfl rfl rfl rfl (by cases ql' <;> rfl) (by show 0 < 2; omega) rfl .head rfl ?_
          refine Pw.held sf ?_
          refine Pw.done (by kernel_rfl) ?_
          have e6 : (ds.map Prod.fst).flatMap encOn ++ encOn d.1 = ((ds ++ [d]).map Prod.fst).flatMap encOn := by rw [List.map_append, List.flatMap_append]; simp
          rw [e6] at hql' ⊢
          refine Pw.perm (permEd d ds) ?_
          repeat (first | refine Pw.runs ?_ | refine Pw.list (Pw.box rfl rfl rfl rfl (fun _ => ?_)) | refine Pw.list (Pw.alloc rfl rfl rfl rfl rfl (fun _ => ?_)))
          refine Pw.re (d := 132) (v' := .int .i64 ((i + 1 : Nat) : Int)) rfl (congrArg (Value.int .i64) (i64s (n := 1000000) (by omega) (by omega))) ?_
          exact Pw.again (i + 1, ql', ds ++ [d]) ⟨by show i + 1 ≤ xs.length; omega, ⟨by show (ds ++ [d]).length = i + 1; rw [List.length_append, hds.1]; rfl, fun j d' hj => by
            rcases Nat.lt_or_ge j ds.length with h | h
            · rw [List.getElem?_append_left h] at hj
              exact hds.2 j d' hj
            · have hj2 : j < (ds ++ [d]).length := (List.getElem?_eq_some_iff.1 hj).1
              rw [List.length_append, List.length_singleton] at hj2
              obtain rfl : j = ds.length := by omega
              rw [List.getElem?_concat_length] at hj
              obtain rfl := Option.some.inj hj
              have hi2 := hds.1
              rw [hi2]
              exact ⟨x, sh, hx, hsh, hdB⟩⟩, hql'⟩ (by show xs.length - (i + 1) < xs.length - i; omega) ⟨rfl, rfl, rfl, rfl, rfl, rfl, trivial⟩ rfl (fun w h => allCons (fun d' hd' => by
            rcases List.mem_append.1 hd' with h1 | h1
            · exact (hv w h : DnA ds w) d' h1
            · rw [List.mem_singleton.1 h1]; exact (hv w h : heldOn d.1 w)) (allCons (hv w h) (allCons (hv w h) allNil)))
        · skip
          refine Pw.lit15 rfl rfl rfl rfl rfl rfl rfl rfl rfl (fun g2 => freeHead ?_)
          refine Pw.held sf ?_
          refine Pw.one 4 (nb 11 127) rfl (by kernel_rfl) ?_
          refine Pw.loadO (g := gr) (i := 0) (cs := [gv ql i, .int .u64 (leftTo size.toNat a xs ps (i + 1))]) (t := 54) rfl rfl (List.mem_append_right _ (.head _)) rfl rfl rfl ?_
          refine Pw.held sf ?_
          refine Pw.one 7 (nb 11 255) rfl (by kernel_rfl) ?_
          refine Pw.push (s := ql) (m := i) (news := encOn d.1) rfl rfl rfl rfl rfl rfl rfl hql rfl (fun u hu => by
            simp only [encOn, List.mem_cons, List.not_mem_nil, or_false] at hu
            rcases hu with rfl | rfl | rfl | rfl | rfl <;> rfl) (fun w hs j u hu => by
            have h1 : w.heap[g2]? = some (row (encOn d.1) 86) := fact0 hs.all
            rw [add_none, cell_of_blk h1]
            simpa using hu) (by omega) (by simp only [maxLen]; omega) (by show (i + 1) * 72 ≤ _; omega) rfl rfl (fun ql' hql' => ?_)
          refine Pw.perm List.perm_middle ?_
          refine Pw.held sf ?_
          refine Pw.takeP 8 (nb 11 511) rfl rfl rfl rfl (by kernel_rfl) np sf ?_
          refine Pw.takeP 9 (nb 11 1023) rfl rfl rfl rfl (by kernel_rfl) np sf ?_
          refine Pw.one 10 (nb 11 2047) rfl (by kernel_rfl) ?_
          refine Pw.storeO rfl rfl rfl rfl (by cases ql' <;> rfl) (by show 0 < 2; omega) rfl .head rfl ?_
          refine Pw.held sf ?_
          refine Pw.done (by kernel_rfl) ?_
          have e6 : (ds.map Prod.fst).flatMap encOn ++ encOn d.1 = ((ds ++ [d]).map Prod.fst).flatMap encOn := by rw [List.map_append, List.flatMap_append]; simp
          rw [e6] at hql' ⊢
          refine Pw.perm (permEd d ds) ?_
          repeat (first | refine Pw.runs ?_ | refine Pw.list (Pw.box rfl rfl rfl rfl (fun _ => ?_)) | refine Pw.list (Pw.alloc rfl rfl rfl rfl rfl (fun _ => ?_)))
          refine Pw.re (d := 132) (v' := .int .i64 ((i + 1 : Nat) : Int)) rfl (congrArg (Value.int .i64) (i64s (n := 1000000) (by omega) (by omega))) ?_
          exact Pw.again (i + 1, ql', ds ++ [d]) ⟨by show i + 1 ≤ xs.length; omega, ⟨by show (ds ++ [d]).length = i + 1; rw [List.length_append, hds.1]; rfl, fun j d' hj => by
            rcases Nat.lt_or_ge j ds.length with h | h
            · rw [List.getElem?_append_left h] at hj
              exact hds.2 j d' hj
            · have hj2 : j < (ds ++ [d]).length := (List.getElem?_eq_some_iff.1 hj).1
              rw [List.length_append, List.length_singleton] at hj2
              obtain rfl : j = ds.length := by omega
              rw [List.getElem?_concat_length] at hj
              obtain rfl := Option.some.inj hj
              have hi2 := hds.1
              rw [hi2]
              exact ⟨x, sh, hx, hsh, hdB⟩⟩, hql'⟩ (by show xs.length - (i + 1) < xs.length - i; omega) ⟨rfl, rfl, rfl, rfl, rfl, rfl, trivial⟩ rfl (fun w h => allCons (fun d' hd' => by
            rcases List.mem_append.1 hd' with h1 | h1
            · exact (hv w h : DnA ds w) d' h1
            · rw [List.mem_singleton.1 h1]; exact (hv w h : heldOn d.1 w)) (allCons (hv w h) (allCons (hv w h) allNil)))
    · obtain rfl : i = xs.length := by omega
      have hdn : (ds.map Prod.fst).length = xs.length := by rw [List.length_map]; exact hds.1
      refine freeHead ?_
      refine Pw.freeG hql (fun A' c' eg hc' => ?_)
      repeat (first | refine Pw.runs ?_ | refine Pw.list (Pw.box rfl rfl rfl rfl (fun _ => ?_)) | refine Pw.list (Pw.alloc rfl rfl rfl rfl rfl (fun _ => ?_)))
      refine Pw.eqL (L' := dL ds) (by simp) ?_
      exact Pw.retB (x := some ⟨gr, (A', c'), ds⟩) (List.Sublist.refl _) (.tmp rfl (.tmp rfl .nil)) rfl ⟨hE0, hds⟩ (fun w h => ⟨by rw [hdn, ← eg]; exact fact1 h, rows_of_cells (fun _ _ => rfl) (fun d hd => by
        obtain ⟨d', hd', rfl⟩ := List.mem_map.1 hd
        exact (hv w h : DnA ds w) d' hd') (by rw [hdn]; exact hc') (by rw [hdn]; simp only [maxLen]; omega) (by omega) (fact0 h)⟩)
end Go.Proofs.Wk
/- PayoutPlays: what stays, whatever is paid. -/
namespace Go.Proofs.Wk
open Go.RowKit
set_option linter.unusedVariables false
set_option linter.unusedSimpArgs false
structure Sq (st0 st : Sr) : Prop where
  f : st.map Prod.fst = st0.map Prod.fst
  w : ∀ s ∈ st, Wf s
theorem Sq.so {st0 st : Sr} (h : Sq st0 st) : So st0 st (fun j p => ∀ s, st[j]? = some s → paidB s p = true) :=
  ⟨h.f, h.w, fun j s p hs hp => ⟨fun hb s' hs' => by rw [hs] at hs'; rw [← Option.some.inj hs']; exact hb, fun hb => hb s hs⟩⟩
theorem Sq.pay {st0 st : Sr} (h : Sq st0 st) (v p : Int) : Sq st0 (payS st v p) := by
  unfold payS
  cases hf : fnd st v p with
  | none => exact h
  | some j =>
    obtain ⟨s, hs, hid, h0, h1⟩ := fnd_some hf
    dsimp only
    rw [hs]
    dsimp only
    split
    · exact h
    · have hjl := (List.getElem?_eq_some_iff.1 hs).1
      refine ⟨?_, ?_⟩
      · rw [← h.f]
        refine List.ext_getElem? fun i => ?_
        rw [List.getElem?_map, List.getElem?_map, List.getElem?_set]
        split
        next hij => subst hij; first | (rw [if_pos hjl, hs]; rfl) | (rw [hs]; rfl)
        next => rfl
      · intro s' hs'
        rcases List.mem_or_eq_of_mem_set hs' with hs' | rfl
        · exact h.w s' hs'
        · exact (h.w s (List.mem_of_getElem? hs)).set (by omega)
theorem open_le {st0 st : Sr} (h : Sq st0 st) (hu : ∀ s ∈ st0, Eu s) : openS st ≤ sumL (buT st0) (List.range st0.length) := by
  unfold openS
  rw [h.so.len]
  refine sumL_le fun j hj => ?_
  have hj := List.mem_range.1 hj
  obtain ⟨s, hs, hsm⟩ := get_at (show j < st.length by rw [h.so.len]; exact hj)
  obtain ⟨b0, h0⟩ := h.so.back hs
  have heu : Eu s := h.so.eu hu s hsm
  unfold opAt buT
  rw [hs, h0]
  show opE s ≤ lsum s.1.bu
  unfold opE opT
  rw [← buI_sum]
  refine sumL_le fun i hi => ?_
  unfold opI buI
  split
  · cases e : s.1.bu[i]? with
    | none => exact Int.le_refl _
    | some b => exact (heu.b b (List.mem_of_getElem? e)).1
  · exact Int.le_refl _
theorem mt_new {size a : Int} {xs : List Ex} {ps : List Int} {st : Sr} {ds : Ds} (h : NewOk size.toNat a xs ps xs.length st) (hd : DNewOk size.toNat a xs ps xs.length ds) (he : newErr xs ps size = 0) (ha : U64 a) (hX : XW xs) (hp : ∀ p ∈ ps, U64 p) : Mt st ds := by
  refine ⟨by rw [h.1, hd.1], fun j s d hs hd' => ?_⟩
  obtain ⟨x, sh, hx, hsh, hN⟩ := new_ne h he ha hX hp hs
  obtain ⟨x', sh', hx', hsh', hB⟩ := hd.2 j d hd'
  obtain rfl : x = x' := by rw [hx] at hx'; exact Option.some.inj hx'
  obtain rfl : sh = sh' := by rw [hsh] at hsh'; exact Option.some.inj hsh'
  have hl : d.1.pg.length = s.1.pg.length := by rw [hN.l, ← hB.pg, List.length_map]
  refine ⟨by rw [hB.ex, hN.e.ex], by rw [hB.pg, hN.e.pg], by rw [hB.bu, hN.e.bu], ?_⟩
  rw [hB.b, hl]
  refine List.ext_getElem? fun i => ?_
  rw [List.getElem?_replicate]
  split
  next hi => rw [pd_get hi, hN.fr i hi]
  next hi => rw [List.getElem?_eq_none (by rw [pd_len]; omega)]
end Go.Proofs.Wk
/- PayoutWhole. -/
namespace Go.Proofs.Wk
open Go.RowKit
set_option maxRecDepth 100000
set_option maxHeartbeats 8000000
attribute [local irreducible] Pw OpG
set_option linter.unusedVariables false
set_option linter.unusedSimpArgs false
theorem slots5 {u u1 u2 u3 u4 : Value} : ∀ d v, lk [(0, u), (1, u1), (2, u2), (3, u3), (4, u4)] d = some v → [u, u1, u2, u3, u4][d]? = some v := fun d v h => by
  rcases slots_cons (l := []) d v h with ⟨rfl, rfl⟩ | h
  · rfl
  rcases slots_cons (l := []) d v h with ⟨rfl, rfl⟩ | h
  · rfl
  rcases slots_cons (l := []) d v h with ⟨rfl, rfl⟩ | h
  · rfl
  rcases slots_cons (l := []) d v h with ⟨rfl, rfl⟩ | h
  · rfl
  rcases slots_cons (l := []) d v h with ⟨rfl, rfl⟩ | h
  · rfl
  · cases h
end Go.Proofs.Wk
/- PayoutPlays. -/
namespace Go.Proofs.Wk
open Go.RowKit
set_option maxRecDepth 100000
set_option maxHeartbeats 8000000
set_option linter.unusedVariables false
set_option linter.unusedSimpArgs false
section
variable {P : Program} {w0 : World} {M O : Nat → Prop} {n : Nat} {K : Slots} {L : List Blk} {G : List (World → Prop)} {Q : Exit → Act → World → Prop} {ops : Array Oper} {l : Array Bool} {fuel : Nat}
  {d : Nat} {ty : TypeId} {pos : String} {af : Array Edge} {gd : Option (Nat × Bool)} {S : World → Prop}
/-- A place in an array of a row. -/
theorem Pw.takeIxA {x ix : Operand} {t e : TypeId} {A : Addr} {m : Nat} {k : IntKind} {j : Int} {f : TypeInfo} (i : Nat) (l' : Array Bool) (ho : ops[i]? = some ⟨some d, .indexAddr t x ix, ty, pos, af, gd⟩) (hx : ev K x = some (.pointer (some A))) (hi : ev K ix = some (.int k j)) (ht : P.underlying t = some (.array m e)) (hf : P.info? e = some f) (h0 : 0 ≤ j) (h1 : j < (m : Int))
    (hw : wantB K ops gd = some true) (hn : Nat.blt d n = true) (hc : takeB ops l i l' = true) (hQ : NoPan Q) (hS : ∀ w, St w0 M O L G w → S w)
    (h : Pw w0 M O n ((d, .pointer (some (A.add (j.toNat * f.size)))) :: K) L G (wpAnyH P .any ops Q S fuel l')) : Pw w0 M O n K L G (wpAnyH P .any ops Q S (fuel + 1) l) :=
  Pw.take i l' ho rfl hn hw hc hQ hS (fun a w ha _ => by
    simp [execOp, ha.eval hx, ha.eval hi, Instr.indexAt, Instr.sureAddr, asIntOf, underlying, ht, sizeOf, typeInfo, hf, h0, h1]) h
end
attribute [local irreducible] Pw OpG
def encI2 (p : Int × Int) : List Value := [.int .i64 p.1, .int .i64 p.2]
abbrev SCr (l : List (Int × Int)) (z : Option Addr × Nat) : World → Prop := Rows (RR encI2 (fun _ _ => True)) 2 l z.1 z.2
theorem PayoutPlays_ct (a : Int) (xs : List Ex) (xz : Option Addr × Nat) (ps : List Int) (y : Option Addr × Nat) (size : Int) (sc : List (Int × Int)) (sz : Option Addr × Nat) (ha : U64 a) (hxs : ∀ x ∈ xs, ExW x) (hps : ∀ p ∈ ps, U64 p) (hsz : size ≤ 9223372036854775807) :
    Ct Tryz.prog 3 #[.int .u64 a, xsV xs xz, sl ps y, .int .i64 size, .slice sz.1 sc.length sz.2] (fun W => XS xs xz W ∧ U1 ps y W ∧ SCr sc sz W) (fun _ : Unit => .bool true) Tt (fun _ _ => True) := by
  obtain ⟨A, c⟩ := xz
  obtain ⟨SA, scc⟩ := sz
  refine Ct.start Tryz.func3 rfl rfl (slots_of rfl slots5) (fun D w0 => Pw.facts (G' := [XS xs (A, c), U1 ps y, SCr sc (SA, scc)]) (fun w h => allCons (fact0 h).1 (allCons (fact0 h).2.1 (allCons (fact0 h).2.2 allNil))) ?_)
  repeat (first | refine Pw.runs ?_ | refine Pw.list (Pw.box rfl rfl rfl rfl (fun _ => ?_)) | refine Pw.list (Pw.alloc rfl rfl rfl rfl rfl (fun _ => ?_)))
  refine Pw.list (Pw.call poAwake_ct rfl rfl rfl (by kernel_rfl) rfl rfl (fun w h => trivial) ?_)
  intro _ _
  repeat (first | refine Pw.runs ?_ | refine Pw.list (Pw.box rfl rfl rfl rfl (fun _ => ?_)) | refine Pw.list (Pw.alloc rfl rfl rfl rfl rfl (fun _ => ?_)))
  refine Pw.list (Pw.call (poFew_ct xs (A, c)) rfl rfl rfl (by kernel_rfl) rfl rfl (fun w h => (hv w h)) ?_)
  intro r hr
  cases r
  · repeat (first | refine Pw.runs ?_ | refine Pw.list (Pw.box rfl rfl rfl rfl (fun _ => ?_)) | refine Pw.list (Pw.alloc rfl rfl rfl rfl rfl (fun _ => ?_)))
    refine Pw.list (Pw.call poAwake_ct rfl rfl rfl (by kernel_rfl) rfl rfl (fun w h => trivial) ?_)
    intro _ _
    repeat (first | refine Pw.runs ?_ | refine Pw.list (Pw.box rfl rfl rfl rfl (fun _ => ?_)) | refine Pw.list (Pw.alloc rfl rfl rfl rfl rfl (fun _ => ?_)))
    exact Pw.ret_ (x := ()) (.tmp rfl .nil) rfl trivial (fun w h => by trivial)
  obtain ⟨hn, hl⟩ := hr rfl
  clear hr
  repeat (first | refine Pw.runs ?_ | refine Pw.list (Pw.box rfl rfl rfl rfl (fun _ => ?_)) | refine Pw.list (Pw.alloc rfl rfl rfl rfl rfl (fun _ => ?_)))
  refine Pw.split 40 rfl (fun c1 => ?_) (fun c1 => ?_)
  · repeat (first | refine Pw.runs ?_ | refine Pw.list (Pw.box rfl rfl rfl rfl (fun _ => ?_)) | refine Pw.list (Pw.alloc rfl rfl rfl rfl rfl (fun _ => ?_)))
    refine Pw.list (Pw.call poAwake_ct rfl rfl rfl (by kernel_rfl) rfl rfl (fun w h => trivial) ?_)
    intro _ _
    repeat (first | refine Pw.runs ?_ | refine Pw.list (Pw.box rfl rfl rfl rfl (fun _ => ?_)) | refine Pw.list (Pw.alloc rfl rfl rfl rfl rfl (fun _ => ?_)))
    exact Pw.ret_ (x := ()) (.tmp rfl .nil) rfl trivial (fun w h => by trivial)
  repeat (first | refine Pw.runs ?_ | refine Pw.list (Pw.box rfl rfl rfl rfl (fun _ => ?_)) | refine Pw.list (Pw.alloc rfl rfl rfl rfl rfl (fun _ => ?_)))
  refine Pw.condD rfl (fun c2 => ?_) (fun c2 => ?_)
  · repeat (first | refine Pw.runs ?_ | refine Pw.list (Pw.box rfl rfl rfl rfl (fun _ => ?_)) | refine Pw.list (Pw.alloc rfl rfl rfl rfl rfl (fun _ => ?_)))
    refine Pw.list (Pw.call poAwake_ct rfl rfl rfl (by kernel_rfl) rfl rfl (fun w h => trivial) ?_)
    intro _ _
    repeat (first | refine Pw.runs ?_ | refine Pw.list (Pw.box rfl rfl rfl rfl (fun _ => ?_)) | refine Pw.list (Pw.alloc rfl rfl rfl rfl rfl (fun _ => ?_)))
    exact Pw.ret_ (x := ()) (.tmp rfl .nil) rfl trivial (fun w h => by trivial)
  have hX : XW xs := ⟨hxs, fun x hx => by have := hl x hx; omega, by omega⟩
  repeat (first | refine Pw.runs ?_ | refine Pw.list (Pw.box rfl rfl rfl rfl (fun _ => ?_)) | refine Pw.list (Pw.alloc rfl rfl rfl rfl rfl (fun _ => ?_)))
  refine Pw.list (Pw.call (poTheirs_ct xs (A, c) (by omega)) rfl rfl rfl (by kernel_rfl) rfl rfl (fun w h => (hv w h : XS xs (A, c) w)) ?_)
  intro z _
  repeat (first | refine Pw.runs ?_ | refine Pw.list (Pw.box rfl rfl rfl rfl (fun _ => ?_)) | refine Pw.list (Pw.alloc rfl rfl rfl rfl rfl (fun _ => ?_)))
  refine Pw.list (Pw.callB (L0 := []) (poNew_ct a xs z ps y size ha hX hps hsz) rfl rfl rfl rfl (by kernel_rfl) rfl rfl (fun w h => ⟨(hv w h : XS xs z w), (hv w h : U1 ps y w)⟩) ?_)
  rintro (_ | ⟨gr, ga, st0⟩) hR
  · dsimp only at hR ⊢
    refine Pw.eqL (L' := []) rfl ?_
    repeat (first | refine Pw.runs ?_ | refine Pw.list (Pw.box rfl rfl rfl rfl (fun _ => ?_)) | refine Pw.list (Pw.alloc rfl rfl rfl rfl rfl (fun _ => ?_)))
    refine Pw.list (Pw.callB (L0 := []) (rNew_ct a xs (A, c) ps y size ha hX hps hsz) rfl rfl rfl rfl (by kernel_rfl) rfl rfl (fun w h => ⟨(hv w h : XS xs (A, c) w), (hv w h : U1 ps y w)⟩) ?_)
    rintro (_ | ⟨gd, dz, ds0⟩) hR2
    · dsimp only at hR2 ⊢
      obtain ⟨e, he⟩ : ∃ e, newErr xs ps size = e := ⟨_, rfl⟩
      rw [he] at hR ⊢
      repeat (first | refine Pw.runs ?_ | refine Pw.list (Pw.box rfl rfl rfl rfl (fun _ => ?_)) | refine Pw.list (Pw.alloc rfl rfl rfl rfl rfl (fun _ => ?_)))
      refine Pw.re (d := 66) (v' := .bool false) rfl (by simp) ?_
      repeat (first | refine Pw.runs ?_ | refine Pw.list (Pw.box rfl rfl rfl rfl (fun _ => ?_)) | refine Pw.list (Pw.alloc rfl rfl rfl rfl rfl (fun _ => ?_)))
      refine Pw.condD rfl (fun c3 => ?_) (fun c3 => absurd hR c3)
      repeat (first | refine Pw.runs ?_ | refine Pw.list (Pw.box rfl rfl rfl rfl (fun _ => ?_)) | refine Pw.list (Pw.alloc rfl rfl rfl rfl rfl (fun _ => ?_)))
      refine Pw.re (d := 73) (v' := .bool true) rfl (by simp) ?_
      repeat (first | refine Pw.runs ?_ | refine Pw.list (Pw.box rfl rfl rfl rfl (fun _ => ?_)) | refine Pw.list (Pw.alloc rfl rfl rfl rfl rfl (fun _ => ?_)))
      exact Pw.ret_ (x := ()) (.tmp rfl .nil) rfl trivial (fun w h => by trivial)
    · exact absurd hR2.1 hR
  obtain ⟨he, hN⟩ := hR
  replace hN : NewOk size.toNat a xs ps xs.length st0 := hN
  obtain ⟨hw0, hu0⟩ := new_all hN he ha hX hps
  have hids0 := new_ids hN (newErr_ok he).2.2.2
  have htot := new_total hN he ha hX hps
  have hlen0 : st0.length = xs.length := hN.1
  dsimp only
  refine Pw.eqL (L' := rwL st0) (List.append_nil _) ?_
  repeat (first | refine Pw.runs ?_ | refine Pw.list (Pw.box rfl rfl rfl rfl (fun _ => ?_)) | refine Pw.list (Pw.alloc rfl rfl rfl rfl rfl (fun _ => ?_)))
  refine Pw.list (Pw.callB (L0 := rwL st0) (rNew_ct a xs (A, c) ps y size ha hX hps hsz) rfl rfl rfl rfl (by kernel_rfl) rfl rfl (fun w h => ⟨(hv w h : XS xs (A, c) w), (hv w h : U1 ps y w)⟩) ?_)
  rintro (_ | ⟨gd, ⟨Ad, cd⟩, ds0⟩) hR2
  · exact absurd he hR2
  obtain ⟨_, hD⟩ := hR2
  replace hD : DNewOk size.toNat a xs ps xs.length ds0 := hD
  have hmt0 := mt_new hN hD he ha hX hps
  dsimp only
  have hle : 0 ≤ leftTo size.toNat a xs ps xs.length ∧ leftTo size.toNat a xs ps xs.length ≤ a := by have := lefts_ok (k := size.toNat) ha hX hps (newErr_ok he).2.2.1 xs.length; exact ⟨this.1, this.2.1⟩
  generalize leftTo size.toNat a xs ps xs.length = left at htot hle
  obtain ⟨ha1, ha2⟩ := ha
  repeat (first | refine Pw.runs ?_ | refine Pw.list (Pw.box rfl rfl rfl rfl (fun _ => ?_)) | refine Pw.list (Pw.alloc rfl rfl rfl rfl rfl (fun _ => ?_)))
  refine Pw.loopJ (σ := Nat × Sr × Ds) (fun t => t.1 ≤ sc.length ∧ Sq st0 t.2.1 ∧ Mt t.2.1 t.2.2 ∧ t.2.2.map Prod.fst = ds0.map Prod.fst) (fun t => ⟨[(4, .slice SA sc.length scc), (11, .pointer (some ⟨gr, 0, none⟩)), (13, .pointer (some ⟨gd, 0, none⟩)), (78, .int .i64 sc.length), (79, .int .i64 t.1)], dL t.2.2 ++ rwL t.2.1, [rwF gr ga left st0, drF gd (Ad, cd) left (ds0.map Prod.fst), SCr sc (SA, scc)]⟩) (fun t => sc.length - t.1) (0, st0, ds0) ⟨Nat.zero_le _, ⟨rfl, hw0⟩, hmt0, rfl⟩ (by
    intro X h
    dsimp only at h
    refine Pw.enter ?_ ?_ X h
    · exact ⟨rfl, rfl, rfl, rfl, rfl, trivial⟩
    · exact fun w h => allCons (hv w h : rwF gr ga left st0 w) (allCons (hv w h : drF gd (Ad, cd) left (ds0.map Prod.fst) w) (allCons (hv w h : SCr sc (SA, scc) w) allNil))) ?_
  rintro ⟨i, st, ds⟩ ⟨hi, hsq, hmt, hdf⟩
  dsimp only at hi hsq hmt hdf ⊢
  have hids : (idsS st).Nodup := by rw [hsq.so.ids]; exact hids0
  have heu := hsq.so.eu hu0
  have hlen : st.length ≤ 1000 := by rw [hsq.so.len]; omega
  repeat (first | refine Pw.runs ?_ | refine Pw.list (Pw.box rfl rfl rfl rfl (fun _ => ?_)) | refine Pw.list (Pw.alloc rfl rfl rfl rfl rfl (fun _ => ?_)))
  refine Pw.condD rfl (fun c3 => ?_) (fun c3 => ?_)
  · have hi0 : (0 : Int) ≤ (i : Int) := Int.natCast_nonneg i
    obtain ⟨⟨v, p⟩, hvp, _⟩ := get_at (show i < sc.length by omega)
    refine Pw.use (p := SA.isSome = true) (fun w h => (hv w h : SCr sc (SA, scc) w).has hi0 c3) (fun hA => ?_)
    obtain ⟨sa, rfl⟩ := Option.isSome_iff_exists.1 hA
    repeat (first | refine Pw.runs ?_ | refine Pw.list (Pw.box rfl rfl rfl rfl (fun _ => ?_)) | refine Pw.list (Pw.alloc rfl rfl rfl rfl rfl (fun _ => ?_)))
    refine Pw.drawnG mixed rfl rfl ?_
    refine Pw.takeP 0 (nb 12 1) rfl rfl rfl rfl (by kernel_rfl) np sf ?_
    refine Pw.takeP 1 (nb 12 3) rfl rfl rfl rfl (by kernel_rfl) np sf ?_
    refine Pw.takeIx 2 (nb 12 7) rfl rfl rfl rfl rfl (by first | assumption | omega) (by first | assumption | omega) rfl rfl (by kernel_rfl) np sf ?_
    refine Pw.takeIxA 3 (nb 12 15) rfl rfl rfl rfl rfl (by decide) (by decide) rfl rfl (by kernel_rfl) np sf ?_
    refine Pw.takeLF (o := 0) (v, p) 4 (nb 12 31) rfl rfl inferInstance rfl (by rw [Int.toNat_natCast]; exact hvp) rfl rfl rfl rfl (by kernel_rfl) np sf ?_
    refine Pw.takeP 5 (nb 12 63) rfl rfl rfl rfl (by kernel_rfl) np sf ?_
    refine Pw.takeP 6 (nb 12 127) rfl rfl rfl rfl (by kernel_rfl) np sf ?_
    refine Pw.takeIx 7 (nb 12 255) rfl rfl rfl rfl rfl (by first | assumption | omega) (by first | assumption | omega) rfl rfl (by kernel_rfl) np sf ?_
    refine Pw.takeIxA 8 (nb 12 511) rfl rfl rfl rfl rfl (by decide) (by decide) rfl rfl (by kernel_rfl) np sf ?_
    refine Pw.takeLF (o := 1) (v, p) 9 (nb 12 1023) rfl rfl inferInstance rfl (by rw [Int.toNat_natCast]; exact hvp) rfl rfl rfl rfl (by kernel_rfl) np sf ?_
    refine Pw.takeP 10 (nb 12 2047) rfl rfl rfl rfl (by kernel_rfl) np sf ?_
    refine Pw.takeP 11 (nb 12 4095) rfl rfl rfl rfl (by kernel_rfl) np sf ?_
    refine Pw.done (by kernel_rfl) ?_
    skip
    repeat (first | refine Pw.runs ?_ | refine Pw.list (Pw.box rfl rfl rfl rfl (fun _ => ?_)) | refine Pw.list (Pw.alloc rfl rfl rfl rfl rfl (fun _ => ?_)))
    have hF := rFind_ct gd (Ad, cd) left st ds v p hmt hids hlen
    have hB := poBudget_ct gr ga left st v p hids hsq.w
    have hPd := poPaid_ct gr ga left st v p hids hsq.w
    cases hf : fnd st v p with
    | none =>
      have eb : budE st v p = none := by unfold budE; rw [hf]; rfl
      have ep : pdE st v p = false := by unfold pdE; rw [hf]
      rw [hf] at hF
      rw [eb] at hB
      rw [ep] at hPd
      refine Pw.list (Pw.call hF rfl rfl rfl (by kernel_rfl) rfl rfl (fun w h => by rw [hdf]; exact (hv w h : drF gd (Ad, cd) left (ds0.map Prod.fst) w)) ?_)
      intro _ _
      repeat (first | refine Pw.runs ?_ | refine Pw.list (Pw.box rfl rfl rfl rfl (fun _ => ?_)) | refine Pw.list (Pw.alloc rfl rfl rfl rfl rfl (fun _ => ?_)))
      refine Pw.list (Pw.call hB rfl rfl rfl (by kernel_rfl) rfl rfl (fun w h => hsq.so.rwF (hv w h : rwF gr ga left st0 w)) ?_)
      intro _ _
      repeat (first | refine Pw.runs ?_ | refine Pw.list (Pw.box rfl rfl rfl rfl (fun _ => ?_)) | refine Pw.list (Pw.alloc rfl rfl rfl rfl rfl (fun _ => ?_)))
      refine Pw.list (Pw.callR hPd rfl rfl rfl (by kernel_rfl) rfl rfl (fun w hs => ⟨hsq.so.rwF (hv w hs.all : rwF gr ga left st0 w), fun s hs' => hs.own (mkB s.1.gb s.2) (List.mem_append_right _ (List.mem_map_of_mem hs'))⟩) ?_)
      intro _ _
      repeat (first | refine Pw.runs ?_ | refine Pw.list (Pw.box rfl rfl rfl rfl (fun _ => ?_)) | refine Pw.list (Pw.alloc rfl rfl rfl rfl rfl (fun _ => ?_)))
      repeat (first | refine Pw.runs ?_ | refine Pw.list (Pw.box rfl rfl rfl rfl (fun _ => ?_)) | refine Pw.list (Pw.alloc rfl rfl rfl rfl rfl (fun _ => ?_)))
      refine Pw.perm List.perm_append_comm ?_
      refine Pw.list (Pw.callB (L0 := dL ds) (poPay_ct gr ga left st v p hids hsq.w heu) rfl rfl rfl rfl (by kernel_rfl) rfl rfl (fun w h => hsq.so.rwF (hv w h : rwF gr ga left st0 w)) ?_)
      rintro ⟨Aq, qc⟩ _
      refine Pw.perm List.perm_append_comm ?_
      dsimp only
      repeat (first | refine Pw.runs ?_ | refine Pw.list (Pw.box rfl rfl rfl rfl (fun _ => ?_)) | refine Pw.list (Pw.alloc rfl rfl rfl rfl rfl (fun _ => ?_)))
      refine Pw.list (Pw.callB (L0 := rwL (payS st v p)) (rPay_ct gd (Ad, cd) left st ds v p hmt hids hsq.w heu hlen) rfl rfl rfl rfl (by kernel_rfl) rfl rfl (fun w h => by rw [hdf]; exact (hv w h : drF gd (Ad, cd) left (ds0.map Prod.fst) w)) ?_)
      rintro ⟨Aq2, qc2⟩ _
      have hsq' := hsq.pay v p
      obtain ⟨hmt', hdf'⟩ := hmt.pay hsq.w v p
      have heu' := hsq'.so.eu hu0
      have hlen' : (payS st v p).length ≤ 1000 := by rw [hsq'.so.len]; omega
      have hop := open_le hsq' hu0
      generalize payA st v p = pa
      generalize payS st v p = st' at hsq' hmt' heu' hlen' hop ⊢
      generalize payD st ds v p = ds' at hmt' hdf' ⊢
      rw [hdf] at hdf'
      refine Pw.facts (G' := [PS pa.1 (Aq2, qc2), PS pa.1 (Aq, qc), rwF gr ga left st0, drF gd (Ad, cd) left (ds0.map Prod.fst), fun W => W.heap[gd]? = some (row [.slice Ad (ds0.map Prod.fst).length cd, .int .u64 left] 54), SCr sc (some sa, scc)]) (fun w h => allCons (fact0 h) (allCons (hv w h : PS pa.1 (Aq, qc) w) (allCons (hv w h : rwF gr ga left st0 w) (allCons (hv w h : drF gd (Ad, cd) left (ds0.map Prod.fst) w) (allCons (hv w h : drF gd (Ad, cd) left (ds0.map Prod.fst) w).1 (allCons (hv w h : SCr sc (some sa, scc) w) allNil)))))) ?_
      repeat (first | refine Pw.runs ?_ | refine Pw.list (Pw.box rfl rfl rfl rfl (fun _ => ?_)) | refine Pw.list (Pw.alloc rfl rfl rfl rfl rfl (fun _ => ?_)))
      refine Pw.drawnG mixed rfl rfl ?_
      refine Pw.takeP 0 (nb 30 1) rfl rfl rfl rfl (by kernel_rfl) np sf ?_
      refine Pw.takeP 1 (nb 30 3) rfl rfl rfl rfl (by kernel_rfl) np sf ?_
      refine Pw.one 2 (nb 30 7) rfl (by kernel_rfl) ?_
      refine Pw.call (Parts_ct pa.1 (Aq, qc) (Aq2, qc2)) rfl rfl rfl (by kernel_rfl) rfl rfl (fun w h => ⟨fact1 h, fact0 h⟩) ?_
      intro _ _
      refine Pw.held sf ?_
      refine Pw.takeP 3 (nb 30 15) rfl rfl rfl rfl (by kernel_rfl) np sf ?_
      refine Pw.takeP 4 (nb 30 31) rfl rfl rfl rfl (by kernel_rfl) np sf ?_
      refine Pw.takeP 5 (nb 30 63) rfl rfl rfl rfl (by kernel_rfl) np sf ?_
      refine Pw.takeP 6 (nb 30 127) rfl rfl rfl rfl (by kernel_rfl) np sf ?_
      refine Pw.takeP 7 (nb 30 255) rfl rfl rfl rfl (by kernel_rfl) np sf ?_
      refine Pw.re (d := 158) (v' := .bool false) rfl (by simp) ?_
      refine Pw.takeP 8 (nb 30 511) rfl rfl rfl rfl (by kernel_rfl) np sf ?_
      refine Pw.takeP 9 (nb 30 1023) rfl rfl rfl rfl (by kernel_rfl) np sf ?_
      refine Pw.takeP 10 (nb 30 2047) rfl rfl rfl rfl (by kernel_rfl) np sf ?_
      refine Pw.takeP 11 (nb 30 4095) rfl rfl rfl rfl (by kernel_rfl) np sf ?_
      refine Pw.takeP 12 (nb 30 8191) rfl rfl rfl rfl (by kernel_rfl) np sf ?_
      refine Pw.re (d := 163) (v' := .bool false) rfl (by simp) ?_
      refine Pw.takeP 13 (nb 30 16383) rfl rfl rfl rfl (by kernel_rfl) np sf ?_
      refine Pw.takeP 14 (nb 30 32767) rfl rfl rfl rfl (by kernel_rfl) np sf ?_
      refine Pw.takeP 15 (nb 30 65535) rfl rfl rfl rfl (by kernel_rfl) np sf ?_
      refine Pw.takeP 17 (nb 30 196607) rfl rfl rfl rfl (by kernel_rfl) np sf ?_
      refine Pw.one 16 (nb 30 262143) rfl (by kernel_rfl) ?_
      refine Pw.callR (poOpen_ct gr ga left st' hsq'.w heu' (by omega)) rfl rfl rfl (by kernel_rfl) rfl rfl (fun w hs => ⟨hsq'.so.rwF (hv w hs.all : rwF gr ga left st0 w), fun s hs' => hs.own (mkB s.1.gb s.2) (List.mem_append_right _ (List.mem_map_of_mem hs'))⟩) ?_
      intro _ _
      refine Pw.held sf ?_
      refine Pw.one 18 (nb 30 524287) rfl (by kernel_rfl) ?_
      refine Pw.callR (rOpen_ct gd (Ad, cd) left st' ds' hmt' hsq'.w heu' hlen' (by omega)) rfl rfl rfl (by kernel_rfl) rfl rfl (fun w hs => ⟨by rw [hdf']; exact (hv w hs.all : drF gd (Ad, cd) left (ds0.map Prod.fst) w), fun d hd' => hs.own (dB d) (List.mem_append_left _ (List.mem_map_of_mem (f := dB) hd'))⟩) ?_
      intro _ _
      refine Pw.held sf ?_
      refine Pw.takeP 19 (nb 30 1048575) rfl rfl rfl rfl (by kernel_rfl) np sf ?_
      refine Pw.re (d := 170) (v' := .bool false) rfl (by simp) ?_
      refine Pw.takeP 20 (nb 30 2097151) rfl rfl rfl rfl (by kernel_rfl) np sf ?_
      refine Pw.takeP 21 (nb 30 4194303) rfl rfl rfl rfl (by kernel_rfl) np sf ?_
      refine Pw.takeP 22 (nb 30 8388607) rfl rfl rfl rfl (by kernel_rfl) np sf ?_
      refine Pw.takeP 24 (nb 30 25165823) rfl rfl rfl rfl (by kernel_rfl) np sf ?_
      refine Pw.takeP 25 (nb 30 58720255) rfl rfl rfl rfl (by kernel_rfl) np sf ?_
      refine Pw.takeP 26 (nb 30 125829119) rfl rfl rfl rfl (by kernel_rfl) np sf ?_
      refine Pw.takeF 27 (nb 30 260046847) rfl rfl inferInstance rfl rfl rfl (by kernel_rfl) np sf ?_
      refine Pw.one 23 (nb 30 268435455) rfl (by kernel_rfl) ?_
      refine Pw.call (poLeft_ct gr ga left st0) rfl rfl rfl (by kernel_rfl) rfl rfl (fun w h => (hv w h : rwF gr ga left st0 w)) ?_
      intro _ _
      refine Pw.held sf ?_
      refine Pw.takeP 28 (nb 30 536870911) rfl rfl rfl rfl (by kernel_rfl) np sf ?_
      refine Pw.re (d := 179) (v' := .bool false) rfl (by simp) ?_
      refine Pw.takeP 29 (nb 30 1073741823) rfl rfl rfl rfl (by kernel_rfl) np sf ?_
      refine Pw.done (by kernel_rfl) ?_
      skip
      repeat (first | refine Pw.runs ?_ | refine Pw.list (Pw.box rfl rfl rfl rfl (fun _ => ?_)) | refine Pw.list (Pw.alloc rfl rfl rfl rfl rfl (fun _ => ?_)))
      refine Pw.re (d := 79) (v' := .int .i64 ((i + 1 : Nat) : Int)) rfl (congrArg (Value.int .i64) (i64s (n := 100000) (by omega) (by omega))) ?_
      exact Pw.again (i + 1, st', ds') ⟨by show i + 1 ≤ sc.length; omega, hsq', hmt', hdf'⟩ (by show sc.length - (i + 1) < sc.length - i; omega) ⟨rfl, rfl, rfl, rfl, rfl, trivial⟩ rfl (fun w h => allCons (hv w h : rwF gr ga left st0 w) (allCons (hv w h : drF gd (Ad, cd) left (ds0.map Prod.fst) w) (allCons (hv w h : SCr sc (some sa, scc) w) allNil)))
    | some j =>
      obtain ⟨s, hs, hid, h0, h1⟩ := fnd_some hf
      obtain ⟨P, rfl⟩ : ∃ P : Nat, p = P := ⟨p.toNat, by omega⟩
      have hsm := List.mem_of_getElem? hs
      have hPs : P < s.1.pg.length := by omega
      have hjs := (List.getElem?_eq_some_iff.1 hs).1
      obtain ⟨d, hd, hdm⟩ := get_at (show j < ds.length by rw [hmt.l]; omega)
      have hmt1 := hmt.a j s d hs hd
      have hwf := hsq.w s hsm
      obtain ⟨q, zq, hq, hqe, hr⟩ := hmt1.row hwf hPs
      have hbl := hwf.b
      have hbi : s.1.bu[P]? = some (buI s.1 P) := by
        obtain ⟨b, hb, _⟩ := get_at (show P < s.1.bu.length by omega)
        rw [hb]; unfold buI; rw [hb]; rfl
      have eb : budE st v (P : Int) = some (buI s.1 P) := by
        unfold budE
        rw [hf, Option.bind_some, hs, Option.bind_some, Int.toNat_natCast]; exact hbi
      have ep : pdE st v (P : Int) = paidB s P := by
        unfold pdE; rw [hf]; dsimp only; rw [hs]; dsimp only; rw [Int.toNat_natCast]
      have hc1 : (cellsD d)[0 + P * 3 + 1]? = some (.int .u64 (buI s.1 P)) := by rw [Nat.zero_add]; exact cellD hr 1 (by omega)
      have hc2 : (cellsD d)[0 + P * 3 + 2]? = some (.bool (paidB s P)) := by rw [Nat.zero_add]; exact cellD hr 2 (by omega)
      have hpg : pgP ds j (P : Int).toNat = .pointer (some ⟨d.1.gp, 0 + P * 3, none⟩) := by unfold pgP; rw [hd, Int.toNat_natCast]; dsimp only; rw [add_none]
      rw [hf] at hF
      dsimp only at hF
      rw [hpg] at hF
      rw [eb] at hB
      rw [ep] at hPd
      obtain ⟨b, hb⟩ : ∃ b, buI s.1 P = b := ⟨_, rfl⟩
      obtain ⟨o, ho⟩ : ∃ o, paidB s P = o := ⟨_, rfl⟩
      rw [hb] at hB hc1
      rw [ho] at hPd hc2
      refine Pw.list (Pw.call hF rfl rfl rfl (by kernel_rfl) rfl rfl (fun w h => by rw [hdf]; exact (hv w h : drF gd (Ad, cd) left (ds0.map Prod.fst) w)) ?_)
      intro _ _
      repeat (first | refine Pw.runs ?_ | refine Pw.list (Pw.box rfl rfl rfl rfl (fun _ => ?_)) | refine Pw.list (Pw.alloc rfl rfl rfl rfl rfl (fun _ => ?_)))
      refine Pw.list (Pw.call hB rfl rfl rfl (by kernel_rfl) rfl rfl (fun w h => hsq.so.rwF (hv w h : rwF gr ga left st0 w)) ?_)
      intro _ _
      repeat (first | refine Pw.runs ?_ | refine Pw.list (Pw.box rfl rfl rfl rfl (fun _ => ?_)) | refine Pw.list (Pw.alloc rfl rfl rfl rfl rfl (fun _ => ?_)))
      refine Pw.list (Pw.loadO (g := d.1.gp) (i := 0 + P * 3 + 1) (cs := cellsD d) (t := 46) rfl rfl (List.mem_append_left _ (List.mem_map_of_mem (f := dB) hdm)) hc1 rfl rfl ?_)
      repeat (first | refine Pw.runs ?_ | refine Pw.list (Pw.box rfl rfl rfl rfl (fun _ => ?_)) | refine Pw.list (Pw.alloc rfl rfl rfl rfl rfl (fun _ => ?_)))
      refine Pw.re (d := 121) (v' := .bool false) rfl (by simp) ?_
      repeat (first | refine Pw.runs ?_ | refine Pw.list (Pw.box rfl rfl rfl rfl (fun _ => ?_)) | refine Pw.list (Pw.alloc rfl rfl rfl rfl rfl (fun _ => ?_)))
      refine Pw.list (Pw.callR hPd rfl rfl rfl (by kernel_rfl) rfl rfl (fun w hs => ⟨hsq.so.rwF (hv w hs.all : rwF gr ga left st0 w), fun s hs' => hs.own (mkB s.1.gb s.2) (List.mem_append_right _ (List.mem_map_of_mem hs'))⟩) ?_)
      intro _ _
      repeat (first | refine Pw.runs ?_ | refine Pw.list (Pw.box rfl rfl rfl rfl (fun _ => ?_)) | refine Pw.list (Pw.alloc rfl rfl rfl rfl rfl (fun _ => ?_)))
      refine Pw.list (Pw.loadO (g := d.1.gp) (i := 0 + P * 3 + 2) (cs := cellsD d) (t := 46) rfl rfl (List.mem_append_left _ (List.mem_map_of_mem (f := dB) hdm)) hc2 rfl rfl ?_)
      repeat (first | refine Pw.runs ?_ | refine Pw.list (Pw.box rfl rfl rfl rfl (fun _ => ?_)) | refine Pw.list (Pw.alloc rfl rfl rfl rfl rfl (fun _ => ?_)))
      refine Pw.re (d := 134) (v' := .bool false) rfl (by cases o <;> rfl) ?_
      obtain ⟨p, hp⟩ : ∃ p : Int, (P : Int) = p := ⟨_, rfl⟩
      rw [hp]
      repeat (first | refine Pw.runs ?_ | refine Pw.list (Pw.box rfl rfl rfl rfl (fun _ => ?_)) | refine Pw.list (Pw.alloc rfl rfl rfl rfl rfl (fun _ => ?_)))
      refine Pw.perm List.perm_append_comm ?_
      refine Pw.list (Pw.callB (L0 := dL ds) (poPay_ct gr ga left st v p hids hsq.w heu) rfl rfl rfl rfl (by kernel_rfl) rfl rfl (fun w h => hsq.so.rwF (hv w h : rwF gr ga left st0 w)) ?_)
      rintro ⟨Aq, qc⟩ _
      refine Pw.perm List.perm_append_comm ?_
      dsimp only
      repeat (first | refine Pw.runs ?_ | refine Pw.list (Pw.box rfl rfl rfl rfl (fun _ => ?_)) | refine Pw.list (Pw.alloc rfl rfl rfl rfl rfl (fun _ => ?_)))
      refine Pw.list (Pw.callB (L0 := rwL (payS st v p)) (rPay_ct gd (Ad, cd) left st ds v p hmt hids hsq.w heu hlen) rfl rfl rfl rfl (by kernel_rfl) rfl rfl (fun w h => by rw [hdf]; exact (hv w h : drF gd (Ad, cd) left (ds0.map Prod.fst) w)) ?_)
      rintro ⟨Aq2, qc2⟩ _
      have hsq' := hsq.pay v p
      obtain ⟨hmt', hdf'⟩ := hmt.pay hsq.w v p
      have heu' := hsq'.so.eu hu0
      have hlen' : (payS st v p).length ≤ 1000 := by rw [hsq'.so.len]; omega
      have hop := open_le hsq' hu0
      generalize payA st v p = pa
      generalize payS st v p = st' at hsq' hmt' heu' hlen' hop ⊢
      generalize payD st ds v p = ds' at hmt' hdf' ⊢
      rw [hdf] at hdf'
      refine Pw.facts (G' := [PS pa.1 (Aq2, qc2), PS pa.1 (Aq, qc), rwF gr ga left st0, drF gd (Ad, cd) left (ds0.map Prod.fst), fun W => W.heap[gd]? = some (row [.slice Ad (ds0.map Prod.fst).length cd, .int .u64 left] 54), SCr sc (some sa, scc)]) (fun w h => allCons (fact0 h) (allCons (hv w h : PS pa.1 (Aq, qc) w) (allCons (hv w h : rwF gr ga left st0 w) (allCons (hv w h : drF gd (Ad, cd) left (ds0.map Prod.fst) w) (allCons (hv w h : drF gd (Ad, cd) left (ds0.map Prod.fst) w).1 (allCons (hv w h : SCr sc (some sa, scc) w) allNil)))))) ?_
      repeat (first | refine Pw.runs ?_ | refine Pw.list (Pw.box rfl rfl rfl rfl (fun _ => ?_)) | refine Pw.list (Pw.alloc rfl rfl rfl rfl rfl (fun _ => ?_)))
      refine Pw.drawnG mixed rfl rfl ?_
      refine Pw.takeP 0 (nb 30 1) rfl rfl rfl rfl (by kernel_rfl) np sf ?_
      refine Pw.takeP 1 (nb 30 3) rfl rfl rfl rfl (by kernel_rfl) np sf ?_
      refine Pw.one 2 (nb 30 7) rfl (by kernel_rfl) ?_
      refine Pw.call (Parts_ct pa.1 (Aq, qc) (Aq2, qc2)) rfl rfl rfl (by kernel_rfl) rfl rfl (fun w h => ⟨fact1 h, fact0 h⟩) ?_
      intro _ _
      refine Pw.held sf ?_
      refine Pw.takeP 3 (nb 30 15) rfl rfl rfl rfl (by kernel_rfl) np sf ?_
      refine Pw.takeP 4 (nb 30 31) rfl rfl rfl rfl (by kernel_rfl) np sf ?_
      refine Pw.takeP 5 (nb 30 63) rfl rfl rfl rfl (by kernel_rfl) np sf ?_
      refine Pw.takeP 6 (nb 30 127) rfl rfl rfl rfl (by kernel_rfl) np sf ?_
      refine Pw.takeP 7 (nb 30 255) rfl rfl rfl rfl (by kernel_rfl) np sf ?_
      refine Pw.re (d := 158) (v' := .bool false) rfl (by simp) ?_
      refine Pw.takeP 8 (nb 30 511) rfl rfl rfl rfl (by kernel_rfl) np sf ?_
      refine Pw.takeP 9 (nb 30 1023) rfl rfl rfl rfl (by kernel_rfl) np sf ?_
      refine Pw.takeP 10 (nb 30 2047) rfl rfl rfl rfl (by kernel_rfl) np sf ?_
      refine Pw.takeP 11 (nb 30 4095) rfl rfl rfl rfl (by kernel_rfl) np sf ?_
      refine Pw.takeP 12 (nb 30 8191) rfl rfl rfl rfl (by kernel_rfl) np sf ?_
      refine Pw.re (d := 163) (v' := .bool false) rfl (by simp) ?_
      refine Pw.takeP 13 (nb 30 16383) rfl rfl rfl rfl (by kernel_rfl) np sf ?_
      refine Pw.takeP 14 (nb 30 32767) rfl rfl rfl rfl (by kernel_rfl) np sf ?_
      refine Pw.takeP 15 (nb 30 65535) rfl rfl rfl rfl (by kernel_rfl) np sf ?_
      refine Pw.takeP 17 (nb 30 196607) rfl rfl rfl rfl (by kernel_rfl) np sf ?_
      refine Pw.one 16 (nb 30 262143) rfl (by kernel_rfl) ?_
      refine Pw.callR (poOpen_ct gr ga left st' hsq'.w heu' (by omega)) rfl rfl rfl (by kernel_rfl) rfl rfl (fun w hs => ⟨hsq'.so.rwF (hv w hs.all : rwF gr ga left st0 w), fun s hs' => hs.own (mkB s.1.gb s.2) (List.mem_append_right _ (List.mem_map_of_mem hs'))⟩) ?_
      intro _ _
      refine Pw.held sf ?_
      refine Pw.one 18 (nb 30 524287) rfl (by kernel_rfl) ?_
      refine Pw.callR (rOpen_ct gd (Ad, cd) left st' ds' hmt' hsq'.w heu' hlen' (by omega)) rfl rfl rfl (by kernel_rfl) rfl rfl (fun w hs => ⟨by rw [hdf']; exact (hv w hs.all : drF gd (Ad, cd) left (ds0.map Prod.fst) w), fun d hd' => hs.own (dB d) (List.mem_append_left _ (List.mem_map_of_mem (f := dB) hd'))⟩) ?_
      intro _ _
      refine Pw.held sf ?_
      refine Pw.takeP 19 (nb 30 1048575) rfl rfl rfl rfl (by kernel_rfl) np sf ?_
      refine Pw.re (d := 170) (v' := .bool false) rfl (by simp) ?_
      refine Pw.takeP 20 (nb 30 2097151) rfl rfl rfl rfl (by kernel_rfl) np sf ?_
      refine Pw.takeP 21 (nb 30 4194303) rfl rfl rfl rfl (by kernel_rfl) np sf ?_
      refine Pw.takeP 22 (nb 30 8388607) rfl rfl rfl rfl (by kernel_rfl) np sf ?_
      refine Pw.takeP 24 (nb 30 25165823) rfl rfl rfl rfl (by kernel_rfl) np sf ?_
      refine Pw.takeP 25 (nb 30 58720255) rfl rfl rfl rfl (by kernel_rfl) np sf ?_
      refine Pw.takeP 26 (nb 30 125829119) rfl rfl rfl rfl (by kernel_rfl) np sf ?_
      refine Pw.takeF 27 (nb 30 260046847) rfl rfl inferInstance rfl rfl rfl (by kernel_rfl) np sf ?_
      refine Pw.one 23 (nb 30 268435455) rfl (by kernel_rfl) ?_
      refine Pw.call (poLeft_ct gr ga left st0) rfl rfl rfl (by kernel_rfl) rfl rfl (fun w h => (hv w h : rwF gr ga left st0 w)) ?_
      intro _ _
      refine Pw.held sf ?_
      refine Pw.takeP 28 (nb 30 536870911) rfl rfl rfl rfl (by kernel_rfl) np sf ?_
      refine Pw.re (d := 179) (v' := .bool false) rfl (by simp) ?_
      refine Pw.takeP 29 (nb 30 1073741823) rfl rfl rfl rfl (by kernel_rfl) np sf ?_
      refine Pw.done (by kernel_rfl) ?_
      skip
      repeat (first | refine Pw.runs ?_ | refine Pw.list (Pw.box rfl rfl rfl rfl (fun _ => ?_)) | refine Pw.list (Pw.alloc rfl rfl rfl rfl rfl (fun _ => ?_)))
      refine Pw.re (d := 79) (v' := .int .i64 ((i + 1 : Nat) : Int)) rfl (congrArg (Value.int .i64) (i64s (n := 100000) (by omega) (by omega))) ?_
      exact Pw.again (i + 1, st', ds') ⟨by show i + 1 ≤ sc.length; omega, hsq', hmt', hdf'⟩ (by show sc.length - (i + 1) < sc.length - i; omega) ⟨rfl, rfl, rfl, rfl, rfl, trivial⟩ rfl (fun w h => allCons (hv w h : rwF gr ga left st0 w) (allCons (hv w h : drF gd (Ad, cd) left (ds0.map Prod.fst) w) (allCons (hv w h : SCr sc (some sa, scc) w) allNil)))
  · obtain rfl : i = sc.length := by omega
    have hop := open_le hsq hu0
    refine Pw.facts (G' := [rwF gr ga left st0, drF gd (Ad, cd) left (ds0.map Prod.fst), fun W => W.heap[gd]? = some (row [.slice Ad (ds0.map Prod.fst).length cd, .int .u64 left] 54)]) (fun w h => allCons (hv w h : rwF gr ga left st0 w) (allCons (hv w h : drF gd (Ad, cd) left (ds0.map Prod.fst) w) (allCons (hv w h : drF gd (Ad, cd) left (ds0.map Prod.fst) w).1 allNil))) ?_
    repeat (first | refine Pw.runs ?_ | refine Pw.list (Pw.box rfl rfl rfl rfl (fun _ => ?_)) | refine Pw.list (Pw.alloc rfl rfl rfl rfl rfl (fun _ => ?_)))
    refine Pw.drawnG mixed rfl rfl ?_
    refine Pw.takeP 0 (nb 15 1) rfl rfl rfl rfl (by kernel_rfl) np sf ?_
    refine Pw.takeP 2 (nb 15 5) rfl rfl rfl rfl (by kernel_rfl) np sf ?_
    refine Pw.takeP 3 (nb 15 13) rfl rfl rfl rfl (by kernel_rfl) np sf ?_
    refine Pw.takeP 4 (nb 15 29) rfl rfl rfl rfl (by kernel_rfl) np sf ?_
    refine Pw.takeF 5 (nb 15 61) rfl rfl inferInstance rfl rfl rfl (by kernel_rfl) np sf ?_
    refine Pw.one 1 (nb 15 63) rfl (by kernel_rfl) ?_
    refine Pw.call (poLeft_ct gr ga left st0) rfl rfl rfl (by kernel_rfl) rfl rfl (fun w h => (hv w h : rwF gr ga left st0 w)) ?_
    intro _ _
    refine Pw.held sf ?_
    refine Pw.takeP 6 (nb 15 127) rfl rfl rfl rfl (by kernel_rfl) np sf ?_
    refine Pw.re (d := 188) (v' := .bool true) rfl (by simp) ?_
    refine Pw.takeP 7 (nb 15 255) rfl rfl rfl rfl (by kernel_rfl) np sf ?_
    refine Pw.takeP 8 (nb 15 511) rfl rfl rfl rfl (by kernel_rfl) np sf ?_
    refine Pw.takeP 10 (nb 15 1535) rfl rfl rfl rfl (by kernel_rfl) np sf ?_
    refine Pw.one 9 (nb 15 2047) rfl (by kernel_rfl) ?_
    refine Pw.callR (poOpen_ct gr ga left st hsq.w heu (by omega)) rfl rfl rfl (by kernel_rfl) rfl rfl (fun w hs => ⟨hsq.so.rwF (hv w hs.all : rwF gr ga left st0 w), fun s hs' => hs.own (mkB s.1.gb s.2) (List.mem_append_right _ (List.mem_map_of_mem hs'))⟩) ?_
    intro _ _
    refine Pw.held sf ?_
    refine Pw.one 11 (nb 15 4095) rfl (by kernel_rfl) ?_
    refine Pw.callR (rOpen_ct gd (Ad, cd) left st ds hmt hsq.w heu hlen (by omega)) rfl rfl rfl (by kernel_rfl) rfl rfl (fun w hs => ⟨by rw [hdf]; exact (hv w hs.all : drF gd (Ad, cd) left (ds0.map Prod.fst) w), fun d hd' => hs.own (dB d) (List.mem_append_left _ (List.mem_map_of_mem (f := dB) hd'))⟩) ?_
    intro _ _
    refine Pw.held sf ?_
    refine Pw.takeP 12 (nb 15 8191) rfl rfl rfl rfl (by kernel_rfl) np sf ?_
    refine Pw.re (d := 194) (v' := .bool true) rfl (by simp) ?_
    refine Pw.takeP 13 (nb 15 16383) rfl rfl rfl rfl (by kernel_rfl) np sf ?_
    refine Pw.takeP 14 (nb 15 32767) rfl rfl rfl rfl (by kernel_rfl) np sf ?_
    refine Pw.done (by kernel_rfl) ?_
    skip
    repeat (first | refine Pw.runs ?_ | refine Pw.list (Pw.box rfl rfl rfl rfl (fun _ => ?_)) | refine Pw.list (Pw.alloc rfl rfl rfl rfl rfl (fun _ => ?_)))
    exact Pw.ret_ (x := ()) (.tmp rfl .nil) rfl trivial (fun w h => by trivial)
end Go.Proofs.Wk
