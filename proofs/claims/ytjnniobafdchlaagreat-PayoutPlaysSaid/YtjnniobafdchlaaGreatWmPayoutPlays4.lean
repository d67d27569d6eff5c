/- Walks and their mathematics, merged. No conditions beyond those written. -/
import Derived.Test.YtjnniobafdchlaaGreatWmPayoutPlays3
/- The document's Part and Split. -/
namespace Go.Proofs.Wk
open Go.RowKit
set_option maxRecDepth 100000
set_option maxHeartbeats 4000000
attribute [local irreducible] Pw OpG
set_option linter.unusedVariables false
set_option linter.unusedSimpArgs false
theorem tDivMod_ct {a b : Int} (u v : Option Addr × Nat) (ha : 0 ≤ a) (hb : 0 < b) {m n : Nat} (la : a < pw m) (lb : b < pw n) (hm : m ≤ 400) (hn : n ≤ 400) : Ct Tryz.prog 55 #[sl (natL a) u, sl (natL b) v] (fun W => S1 (natL a) u W ∧ S1 (natL b) v W) (fun z : (Option Addr × Nat) × (Option Addr × Nat) => .tuple #[sl (natL (a / b)) z.1, sl (natL (a % b)) z.2, .int .i64 0]) Tt (fun z W => S1 (natL (a / b)) z.1 W ∧ S1 (natL (a % b)) z.2 W) := by
  have l1 := natL_len_le ha la; have l2 := natL_len_le (by omega) lb
  have hb0 : (natL b).length ≠ 0 := fun e => by
    have h1 := val_natL (show 0 ≤ b by omega)
    rw [List.eq_nil_of_length_eq_zero e] at h1
    have h2 : val [] = 0 := rfl
    omega
  have hc := rdivMod_ct (natL a) (natL b) u v (natL_fm a) (natL_fm b) hb0 (by omega) (by omega)
  rw [val_natL ha, val_natL (show 0 ≤ b by omega)] at hc
  have f1 := rFormed_ct (natL a) u (by omega)
  have f2 := rFormed_ct (natL b) v (by omega)
  rw [fmB_natL (by omega)] at f1 f2
  refine Ct.start Tryz.func55 rfl rfl (slots_of rfl slots2) (fun D w0 => Pw.facts (G' := [S1 (natL a) u, S1 (natL b) v]) (fun w h => allCons (fact0 h).1 (allCons (fact0 h).2 allNil)) ?_)
  repeat (first | refine Pw.runs ?_ | refine Pw.list (Pw.box rfl rfl rfl rfl (fun _ => ?_)) | refine Pw.list (Pw.alloc rfl rfl rfl rfl rfl (fun _ => ?_)))
  refine Pw.list (Pw.call f1 rfl rfl rfl (by kernel_rfl) rfl rfl (fun w h => (hv w h)) ?_)
  intro _ _
  repeat (first | refine Pw.runs ?_ | refine Pw.list (Pw.box rfl rfl rfl rfl (fun _ => ?_)) | refine Pw.list (Pw.alloc rfl rfl rfl rfl rfl (fun _ => ?_)))
  refine Pw.list (Pw.call f2 rfl rfl rfl (by kernel_rfl) rfl rfl (fun w h => (hv w h)) ?_)
  intro _ _
  repeat (first | refine Pw.runs ?_ | refine Pw.list (Pw.box rfl rfl rfl rfl (fun _ => ?_)) | refine Pw.list (Pw.alloc rfl rfl rfl rfl rfl (fun _ => ?_)))
  refine Pw.re (d := 19) (v' := .bool false) rfl (congrArg Value.bool (decide_eq_false (by omega))) ?_
  repeat (first | refine Pw.runs ?_ | refine Pw.list (Pw.box rfl rfl rfl rfl (fun _ => ?_)) | refine Pw.list (Pw.alloc rfl rfl rfl rfl rfl (fun _ => ?_)))
  refine Pw.list (Pw.call hc rfl rfl rfl (by kernel_rfl) rfl rfl (fun w h => ⟨(hv w h), (hv w h)⟩) ?_)
  rintro ⟨z1, z2⟩ _
  repeat (first | refine Pw.runs ?_ | refine Pw.list (Pw.box rfl rfl rfl rfl (fun _ => ?_)) | refine Pw.list (Pw.alloc rfl rfl rfl rfl rfl (fun _ => ?_)))
  exact Pw.ret_ (x := (z1, z2)) (.tmp rfl (.tmp rfl (.tmp rfl .nil))) rfl trivial (fun w h => fact0 h)
theorem tPart_ct (a n d : Int) (ha : U64 a) (hn : U64 n) (hd : U64 d) (hd0 : 0 < d) (hle : n ≤ d) : Ct Tryz.prog 36 #[.int .u64 a, .int .u64 n, .int .u64 d] (fun _ => True) (fun _ : Unit => .tuple #[.int .u64 (a * n / d), .int .i64 0]) Tt (fun _ _ => True) := by
  unfold U64 at ha hn hd
  have h2 := pw_two
  have hp := part_le ha.1 hn.1 hd0 hle
  have hm : a * n < pw 4 := mul_lt_pw (m := 2) (n := 2) ha.1 (by omega) (by omega) hn.1
  have hm0 : 0 ≤ a * n := Int.mul_nonneg ha.1 hn.1
  refine Ct.start Tryz.func36 rfl rfl (slots_of rfl slots3) (fun D w0 => ?_)
  repeat (first | refine Pw.runs ?_ | refine Pw.list (Pw.box rfl rfl rfl rfl (fun _ => ?_)) | refine Pw.list (Pw.alloc rfl rfl rfl rfl rfl (fun _ => ?_)))
  refine Pw.re (d := 16) (v' := .bool false) rfl (congrArg Value.bool (decide_eq_false (by omega))) ?_
  repeat (first | refine Pw.runs ?_ | refine Pw.list (Pw.box rfl rfl rfl rfl (fun _ => ?_)) | refine Pw.list (Pw.alloc rfl rfl rfl rfl rfl (fun _ => ?_)))
  refine Pw.list (Pw.call (rOf_ct a) rfl rfl rfl (by kernel_rfl) rfl rfl (fun w h => trivial) ?_)
  intro z1 _
  repeat (first | refine Pw.runs ?_ | refine Pw.list (Pw.box rfl rfl rfl rfl (fun _ => ?_)) | refine Pw.list (Pw.alloc rfl rfl rfl rfl rfl (fun _ => ?_)))
  refine Pw.list (Pw.call (rOf_ct n) rfl rfl rfl (by kernel_rfl) rfl rfl (fun w h => trivial) ?_)
  intro z2 _
  rw [ofN_natL ha.1 ha.2, ofN_natL hn.1 hn.2]
  refine Pw.list (Pw.call (rMulN_ct z1 z2 ha.1 hn.1 (m := 2) (n := 2) (by omega) (by omega) (by omega)) rfl rfl rfl (by kernel_rfl) rfl rfl (fun w h => ⟨(hv w h), (hv w h)⟩) ?_)
  intro z3 _
  repeat (first | refine Pw.runs ?_ | refine Pw.list (Pw.box rfl rfl rfl rfl (fun _ => ?_)) | refine Pw.list (Pw.alloc rfl rfl rfl rfl rfl (fun _ => ?_)))
  refine Pw.list (Pw.call (rOf_ct d) rfl rfl rfl (by kernel_rfl) rfl rfl (fun w h => trivial) ?_)
  intro z4 _
  rw [ofN_natL hd.1 hd.2]
  refine Pw.list (Pw.call (tDivMod_ct z3 z4 hm0 hd0 (m := 4) (n := 2) hm (by omega) (by omega) (by omega)) rfl rfl rfl (by kernel_rfl) rfl rfl (fun w h => ⟨(hv w h), (hv w h)⟩) ?_)
  rintro ⟨z5, z6⟩ _
  repeat (first | refine Pw.runs ?_ | refine Pw.list (Pw.box rfl rfl rfl rfl (fun _ => ?_)) | refine Pw.list (Pw.alloc rfl rfl rfl rfl rfl (fun _ => ?_)))
  refine Pw.list (Pw.call (rLow_ct (natL (a * n / d)) z5 (natL_lm _) (by have := natL_len_le (n := 2) hp.1 (by omega); omega)) rfl rfl rfl (by kernel_rfl) rfl rfl (fun w h => (fact0 h).1) ?_)
  intro _ _
  rw [low_nn hp.1 (by omega)]
  repeat (first | refine Pw.runs ?_ | refine Pw.list (Pw.box rfl rfl rfl rfl (fun _ => ?_)) | refine Pw.list (Pw.alloc rfl rfl rfl rfl rfl (fun _ => ?_)))
  exact Pw.ret_ (x := ()) (.tmp rfl (.tmp rfl .nil)) rfl trivial (fun w h => trivial)
theorem tSplitOk_ct (a : Int) (l : List Int) (x : Option Addr × Nat) (ha : U64 a) (hb : ∀ n ∈ l, U64 n) (hl : l.length ≤ 100000) (hS : 0 < lsum l) (hS2 : lsum l ≤ 18446744073709551615) :
    Ct Tryz.prog 29 #[.int .u64 a, sl l x] (U1 l x) (fun z : Option Addr × Nat => .tuple #[sl (spL a l) z, .int .u64 (a - lsum (spL a l)), .int .i64 0]) Tt (fun z => U1 (spL a l) z) := by
  obtain ⟨A, c⟩ := x
  have hsm : sumM l = (lsum l, 0) := by unfold sumM; rw [if_pos hS2]
  have h0 : ∀ s ∈ l, 0 ≤ s := fun s hs => (hb s hs).1
  have hll : (spL a l).length = l.length := by unfold spL; rw [List.length_map]
  refine Ct.start Tryz.func29 rfl rfl (slots_of rfl slots2) (fun D w0 => ?_)
  repeat (first | refine Pw.runs ?_ | refine Pw.list (Pw.box rfl rfl rfl rfl (fun _ => ?_)) | refine Pw.list (Pw.alloc rfl rfl rfl rfl rfl (fun _ => ?_)))
  refine Pw.list (Pw.call (rSum_ct l (A, c) hb) rfl rfl rfl (by kernel_rfl) rfl rfl (fun w h => (hv w h)) ?_)
  intro _ _
  rw [hsm]
  repeat (first | refine Pw.runs ?_ | refine Pw.list (Pw.box rfl rfl rfl rfl (fun _ => ?_)) | refine Pw.list (Pw.alloc rfl rfl rfl rfl rfl (fun _ => ?_)))
  refine Pw.re (d := 23) (v' := .bool false) rfl (congrArg Value.bool (decide_eq_false (by omega))) ?_
  repeat (first | refine Pw.runs ?_ | refine Pw.list (Pw.box rfl rfl rfl rfl (fun _ => ?_)) | refine Pw.list (Pw.alloc rfl rfl rfl rfl rfl (fun _ => ?_)))
  refine Pw.loopJ (σ := Nat × Gr) (fun t => t.1 ≤ l.length ∧ gOk t.2 (((spL a l).take t.1).map (Value.int .u64)) t.1 1) (fun t => ⟨[(0, .int .u64 a), (1, .slice A l.length c), (7, .int .u64 (lsum l)), (10, .int .u64 (a - lsum ((spL a l).take t.1))), (9, gv t.2 t.1), (26, .int .i64 l.length), (27, .int .i64 t.1)], gL1 t.2 (((spL a l).take t.1).map (Value.int .u64)) 22, [U1 l (A, c)]⟩) (fun t => l.length - t.1) (0, none) ⟨Nat.zero_le _, rfl, rfl⟩ (by
    intro X h
    dsimp only at h
    refine Pw.enter ?_ ?_ X h
    · exact ⟨rfl, rfl, rfl, by show some (Value.int .u64 a) = some (.int .u64 (a - 0)); rw [Int.sub_zero], rfl, rfl, rfl, trivial⟩
    · exact fun w h => allCons (hv w h) allNil) ?_
  rintro ⟨i, q⟩ ⟨hi, hq⟩
  dsimp only at hi hq ⊢
  repeat (first | refine Pw.runs ?_ | refine Pw.list (Pw.box rfl rfl rfl rfl (fun _ => ?_)) | refine Pw.list (Pw.alloc rfl rfl rfl rfl rfl (fun _ => ?_)))
  refine Pw.condD rfl (fun c3 => ?_) (fun c3 => ?_)
  · have hi0 : (0 : Int) ≤ (i : Int) := Int.natCast_nonneg i
    obtain ⟨s, hs, hm⟩ := get_at (show i < l.length by omega)
    obtain ⟨e1, e2, e3⟩ := spl_at ha.1 h0 hS hm
    have hsp : (spL a l)[i]? = some (a * s / lsum l) := by unfold spL; rw [List.getElem?_map, hs]; rfl
    have ht := take_snoc hsp
    have hle := spl_le ha.1 h0 hS i
    have hle2 := spl_le ha.1 h0 hS (i + 1)
    rw [ht, lsum_snoc] at hle2
    have ha2 := ha.2
    repeat (first | refine Pw.runs ?_ | refine Pw.list (Pw.box rfl rfl rfl rfl (fun _ => ?_)) | refine Pw.list (Pw.alloc rfl rfl rfl rfl rfl (fun _ => ?_)))
    refine Pw.list (Pw.index rfl rfl rfl rfl hi0 c3 (fun w h => (hv w h : U1 l (A, c) w).has hi0 c3) rfl rfl ?_)
    rintro ad rfl
    refine Pw.list (Pw.load1 rfl rfl (fun w hs => (hv w hs.all : U1 l (some ad, c) w).cell hi0 c3) rfl rfl ?_)
    rw [get_rd hs]
    repeat (first | refine Pw.runs ?_ | refine Pw.list (Pw.box rfl rfl rfl rfl (fun _ => ?_)) | refine Pw.list (Pw.alloc rfl rfl rfl rfl rfl (fun _ => ?_)))
    refine Pw.list (Pw.call (tPart_ct a s (lsum l) ha (hb s hm) ⟨by omega, hS2⟩ hS e1) rfl rfl rfl (by kernel_rfl) rfl rfl (fun w h => trivial) ?_)
    intro _ _
    repeat (first | refine Pw.runs ?_ | refine Pw.list (Pw.box rfl rfl rfl rfl (fun _ => ?_)) | refine Pw.list (Pw.alloc rfl rfl rfl rfl rfl (fun _ => ?_)))
    refine Pw.list (Pw.lit1 rfl rfl rfl rfl rfl rfl rfl rfl rfl (fun g2 => ?_))
    refine freeHead ?_
    refine Pw.list (Pw.push (s := q) (news := [.int .u64 (a * s / lsum l)]) rfl rfl rfl rfl rfl rfl rfl hq rfl (fun u hu => by rw [List.mem_singleton.1 hu]; rfl) (fun w hs j u hu => by
      have h1 : w.heap[g2]? = some (row [.int .u64 (a * s / lsum l)] 22) := fact0 hs.all
      rw [add_none, cell_of_blk h1]
      simpa using hu) (by omega) (by simp only [maxLen]; omega) (by show (i + 1) * 8 ≤ _; omega) rfl rfl (fun q' hq' => ?_))
    have e4 : ((spL a l).take i).map (Value.int .u64) ++ [.int .u64 (a * s / lsum l)] = ((spL a l).take (i + 1)).map (Value.int .u64) := by rw [ht]; simp
    rw [e4] at hq' ⊢
    repeat (first | refine Pw.runs ?_ | refine Pw.list (Pw.box rfl rfl rfl rfl (fun _ => ?_)) | refine Pw.list (Pw.alloc rfl rfl rfl rfl rfl (fun _ => ?_)))
    refine Pw.re (d := 10) (v' := .int .u64 (a - lsum ((spL a l).take (i + 1)))) rfl (congrArg (Value.int .u64) (by rw [ht, lsum_snoc]; rw [wu (by omega) (by omega)]; omega)) ?_
    refine Pw.re (d := 27) (v' := .int .i64 ((i + 1 : Nat) : Int)) rfl (congrArg (Value.int .i64) (i64s (n := 1000000) (by omega) (by omega))) ?_
    exact Pw.again (i + 1, q') ⟨by show i + 1 ≤ l.length; omega, hq'⟩ (by show l.length - (i + 1) < l.length - i; omega) ⟨rfl, rfl, rfl, rfl, rfl, rfl, rfl, trivial⟩ rfl (fun w h => allCons (hv w h) allNil)
  · obtain rfl : i = l.length := by omega
    rw [← hll, List.take_length] at hq ⊢
    refine Pw.freeG hq (fun A' c' e hc => ?_)
    rw [e]
    repeat (first | refine Pw.runs ?_ | refine Pw.list (Pw.box rfl rfl rfl rfl (fun _ => ?_)) | refine Pw.list (Pw.alloc rfl rfl rfl rfl rfl (fun _ => ?_)))
    exact Pw.ret_ (x := (A', c')) (.tmp rfl (.tmp rfl (.tmp rfl .nil))) rfl trivial (fun w h => ints_of_cells hc (by simp only [maxLen]; omega) (fact0 h))
theorem tSplitErr_ct (a : Int) (l : List Int) (x : Option Addr × Nat) (hb : ∀ n ∈ l, U64 n) (hS : ¬ (0 < lsum l ∧ lsum l ≤ 18446744073709551615)) :
    Ct Tryz.prog 29 #[.int .u64 a, sl l x] (U1 l x) (fun _ : Unit => .tuple #[.slice none 0 0, .int .u64 0, .int .i64 (if lsum l ≤ 18446744073709551615 then 5 else 3)]) Tt (fun _ _ => True) := by
  obtain ⟨A, c⟩ := x
  have h0 := lsum_nonneg hb
  by_cases hf : lsum l ≤ 18446744073709551615
  · have hz : lsum l = 0 := by omega
    have hsm : sumM l = (0, 0) := by unfold sumM; rw [if_pos hf, hz]
    rw [if_pos hf]
    refine Ct.start Tryz.func29 rfl rfl (slots_of rfl slots2) (fun D w0 => ?_)
    repeat (first | refine Pw.runs ?_ | refine Pw.list (Pw.box rfl rfl rfl rfl (fun _ => ?_)) | refine Pw.list (Pw.alloc rfl rfl rfl rfl rfl (fun _ => ?_)))
    refine Pw.list (Pw.call (rSum_ct l (A, c) hb) rfl rfl rfl (by kernel_rfl) rfl rfl (fun w h => (hv w h)) ?_)
    intro _ _
    rw [hsm]
    repeat (first | refine Pw.runs ?_ | refine Pw.list (Pw.box rfl rfl rfl rfl (fun _ => ?_)) | refine Pw.list (Pw.alloc rfl rfl rfl rfl rfl (fun _ => ?_)))
    exact Pw.ret_ (x := ()) (.tmp rfl (.tmp rfl (.tmp rfl .nil))) rfl trivial (fun w h => trivial)
  · have hsm : sumM l = (0, 3) := by unfold sumM; rw [if_neg hf]
    rw [if_neg hf]
    refine Ct.start Tryz.func29 rfl rfl (slots_of rfl slots2) (fun D w0 => ?_)
    repeat (first | refine Pw.runs ?_ | refine Pw.list (Pw.box rfl rfl rfl rfl (fun _ => ?_)) | refine Pw.list (Pw.alloc rfl rfl rfl rfl rfl (fun _ => ?_)))
    refine Pw.list (Pw.call (rSum_ct l (A, c) hb) rfl rfl rfl (by kernel_rfl) rfl rfl (fun w h => (hv w h)) ?_)
    intro _ _
    rw [hsm]
    repeat (first | refine Pw.runs ?_ | refine Pw.list (Pw.box rfl rfl rfl rfl (fun _ => ?_)) | refine Pw.list (Pw.alloc rfl rfl rfl rfl rfl (fun _ => ?_)))
    exact Pw.ret_ (x := ()) (.tmp rfl (.tmp rfl (.tmp rfl .nil))) rfl trivial (fun w h => trivial)
end Go.Proofs.Wk
/- The document's reward: its blocks and facts; Find. -/
namespace Go.Proofs.Wk
open Go.RowKit
set_option maxRecDepth 100000
set_option maxHeartbeats 8000000
attribute [local irreducible] Pw OpG
set_option linter.unusedVariables false
set_option linter.unusedSimpArgs false
/-- An entry of the document's reward: its pages with their places; where the pages lie. -/
structure Dn where
  x : Ex
  pg : List Pg
  bu : List Int
  gp : Nat
  cap : Nat
  ex : List Value
abbrev Ds := List (Dn × List Bool)
abbrev PgD := Pg × Int × Bool
def encD (p : PgD) : List Value := [pgV p.1, .int .u64 p.2.1, .bool p.2.2]
def rowD (s : Dn × List Bool) : List PgD := s.1.pg.zip (s.1.bu.zip s.2)
abbrev cellsD (s : Dn × List Bool) : List Value := (rowD s).flatMap encD ++ s.1.ex
abbrev dB (s : Dn × List Bool) : Blk := ⟨s.1.gp, row (cellsD s) 46⟩
abbrev dL (ds : Ds) : List Blk := ds.map dB
def encOn (d : Dn) : List Value := [.int .i64 d.x.id, .int .u64 d.x.com, .int .u64 d.x.own, psV d.x.oth d.x.z, .slice (some ⟨d.gp, 0, none⟩) d.pg.length d.cap]
def heldOn (d : Dn) (W : World) : Prop := ∀ p ∈ d.pg, PS p.1 p.2 W
abbrev OnS (l : List Dn) (z : Option Addr × Nat) : World → Prop := Rows (RR encOn heldOn) 5 l z.1 z.2
abbrev drF (gr : Nat) (z : Option Addr × Nat) (left : Int) (l : List Dn) (W : World) : Prop := W.heap[gr]? = some (row [.slice z.1 l.length z.2, .int .u64 left] 54) ∧ OnS l z W
/-- The document's entries are the program's. -/
structure Mt1 (s : Ent × List Int) (d : Dn × List Bool) : Prop where
  x : d.1.x = s.1.x
  p : d.1.pg.map Prod.fst = s.1.pg.map Prod.fst
  b : d.1.bu = s.1.bu
  d : d.2 = pdOf s
structure Mt (st : Sr) (ds : Ds) : Prop where
  l : ds.length = st.length
  a : ∀ (j : Nat) (s : Ent × List Int) (d : Dn × List Bool), st[j]? = some s → ds[j]? = some d → Mt1 s d
theorem Mt1.len {s : Ent × List Int} {d : Dn × List Bool} (h : Mt1 s d) : d.1.pg.length = s.1.pg.length := by
  have := congrArg List.length h.p
  rwa [List.length_map, List.length_map] at this
theorem Mt1.row {s : Ent × List Int} {d : Dn × List Bool} (h : Mt1 s d) (hw : Wf s) {p : Nat} (hp : p < s.1.pg.length) : ∃ q z, d.1.pg[p]? = some (q, z) ∧ ((s.1.pg[p]?).map Prod.fst) = some q ∧ (rowD d)[p]? = some ((q, z), buI s.1 p, paidB s p) := by
  have hl := h.len
  obtain ⟨⟨q, z⟩, hq, _⟩ := get_at (show p < d.1.pg.length by omega)
  have hbl := hw.b
  obtain ⟨b, hb, _⟩ := get_at (show p < s.1.bu.length by omega)
  refine ⟨q, z, hq, ?_, ?_⟩
  · have h1 : (d.1.pg.map Prod.fst)[p]? = some q := by rw [List.getElem?_map, hq]; rfl
    rw [h.p, List.getElem?_map] at h1
    exact h1
  · unfold rowD
    refine List.getElem?_zip_eq_some.2 ⟨hq, List.getElem?_zip_eq_some.2 ⟨?_, ?_⟩⟩
    · rw [h.b]; show s.1.bu[p]? = some (buI s.1 p); unfold buI; rw [hb]; rfl
    · rw [h.d]; exact pd_get hp
/-- A cell of an entry's pages. -/
theorem cellD {d : Dn × List Bool} {p : Nat} {r : PgD} (hr : (rowD d)[p]? = some r) (i : Nat) (hi : i < 3) : (cellsD d)[p * 3 + i]? = (encD r)[i]? := by
  have hs : ∀ y ∈ rowD d, (encD y).length = 3 := fun _ _ => rfl
  have h1 : (encD r)[i]? = some (encD r)[i] := List.getElem?_eq_getElem hi
  have h2 := flat_get hs hr h1
  rw [h1]
  show ((rowD d).flatMap encD ++ d.1.ex)[p * 3 + i]? = _
  rw [List.getElem?_append_left (List.getElem?_eq_some_iff.1 h2).1]
  exact h2
abbrev onP (z : Option Addr × Nat) (j : Nat) : Value := .pointer (z.1.map (fun ad => ad.add (j * 5)))
abbrev pgP (ds : Ds) (j p : Nat) : Value := match ds[j]? with | some d => .pointer (some ((⟨d.1.gp, 0, none⟩ : Addr).add (p * 3))) | none => .pointer none
theorem rFind_ct (gr : Nat) (z : Option Addr × Nat) (left : Int) (st : Sr) (ds : Ds) (v p : Int) (hm : Mt st ds) (hn : (idsS st).Nodup) (hl : st.length ≤ 1000) : Ct Tryz.prog 9 #[.pointer (some ⟨gr, 0, none⟩), .int .i64 v, .int .i64 p] (drF gr z left (ds.map Prod.fst))
    (fun _ : Unit => match fnd st v p with | some j => .tuple #[onP z j, pgP ds j p.toNat] | none => .tuple #[.pointer none, .pointer none]) Tt (fun _ _ => True) := by
  obtain ⟨A, c⟩ := z
  have hdl := hm.l
  have hml : (ds.map Prod.fst).length = ds.length := List.length_map ..
  refine Ct.start Tryz.func9 rfl rfl (slots_of rfl slots3) (fun D w0 => Pw.facts (G' := [fun W => W.heap[gr]? = some (row [.slice A (ds.map Prod.fst).length c, .int .u64 left] 54), OnS (ds.map Prod.fst) (A, c)]) (fun w h => allCons (fact0 h).1 (allCons (fact0 h).2 allNil)) ?_)
  rw [hml]
  repeat (first | refine Pw.runs ?_ | refine Pw.list (Pw.box rfl rfl rfl rfl (fun _ => ?_)) | refine Pw.list (Pw.alloc rfl rfl rfl rfl rfl (fun _ => ?_)))
  refine Pw.loopJ (σ := Nat) (fun i => i ≤ ds.length ∧ ∀ j, j < i → ∀ s, st[j]? = some s → ¬ (s.1.x.id = v ∧ 0 ≤ p ∧ p < (s.1.pg.length : Int))) (fun i => ⟨[(0, .pointer (some ⟨gr, 0, none⟩)), (1, .int .i64 v), (2, .int .i64 p), (13, .int .i64 ds.length), (14, .int .i64 i)], [], [fun W => W.heap[gr]? = some (row [.slice A ds.length c, .int .u64 left] 54), OnS (ds.map Prod.fst) (A, c)]⟩) (fun i => ds.length - i) 0 ⟨Nat.zero_le _, fun j hj => absurd hj (Nat.not_lt_zero j)⟩ (Pw.enter ⟨rfl, rfl, rfl, rfl, rfl, trivial⟩ (fun w h => h)) ?_
  rintro i ⟨hi, hno⟩
  dsimp only at hi hno ⊢
  repeat (first | refine Pw.runs ?_ | refine Pw.list (Pw.box rfl rfl rfl rfl (fun _ => ?_)) | refine Pw.list (Pw.alloc rfl rfl rfl rfl rfl (fun _ => ?_)))
  refine Pw.condD rfl (fun c3 => ?_) (fun c3 => ?_)
  · obtain ⟨d, hd, hdm⟩ := get_at (show i < ds.length by omega)
    obtain ⟨s, hs, hsm⟩ := get_at (show i < st.length by omega)
    have h1 := hm.a i s d hs hd
    have hdl2 := h1.len
    have hi0 : (0 : Int) ≤ (i : Int) := Int.natCast_nonneg i
    have hdi : (ds.map Prod.fst)[i]? = some d.1 := by rw [List.getElem?_map, hd]; rfl
    have hid : d.1.x.id = s.1.x.id := by rw [h1.x]
    refine Pw.use (p := A.isSome = true) (fun w h => (fact1 h).has hi0 (by rw [hml]; exact c3)) (fun hA => ?_)
    obtain ⟨ad, rfl⟩ := Option.isSome_iff_exists.1 hA
    repeat (first | refine Pw.runs ?_ | refine Pw.list (Pw.box rfl rfl rfl rfl (fun _ => ?_)) | refine Pw.list (Pw.alloc rfl rfl rfl rfl rfl (fun _ => ?_)))
    refine Pw.list (Pw.indexS rfl rfl rfl rfl hi0 c3 rfl rfl ?_)
    refine Pw.list (Pw.fieldS rfl rfl rfl rfl rfl rfl rfl ?_)
    refine Pw.list (Pw.fieldS rfl rfl rfl rfl rfl rfl rfl ?_)
    refine Pw.list (Pw.loadFF d.1 rfl inferInstance rfl (by rw [Int.toNat_natCast]; exact hdi) rfl rfl rfl rfl ?_)
    repeat (first | refine Pw.runs ?_ | refine Pw.list (Pw.box rfl rfl rfl rfl (fun _ => ?_)) | refine Pw.list (Pw.alloc rfl rfl rfl rfl rfl (fun _ => ?_)))
    by_cases hv : d.1.x.id = v
    · refine Pw.re (d := 28) (v' := .bool true) rfl (congrArg Value.bool (decide_eq_true hv)) ?_
      repeat (first | refine Pw.runs ?_ | refine Pw.list (Pw.box rfl rfl rfl rfl (fun _ => ?_)) | refine Pw.list (Pw.alloc rfl rfl rfl rfl rfl (fun _ => ?_)))
      by_cases hp0 : 0 ≤ p
      · refine Pw.re (d := 32) (v' := .bool true) rfl (congrArg Value.bool (decide_eq_true hp0)) ?_
        repeat (first | refine Pw.runs ?_ | refine Pw.list (Pw.box rfl rfl rfl rfl (fun _ => ?_)) | refine Pw.list (Pw.alloc rfl rfl rfl rfl rfl (fun _ => ?_)))
        refine Pw.list (Pw.indexS rfl rfl rfl rfl hi0 c3 rfl rfl ?_)
        refine Pw.list (Pw.fieldS rfl rfl rfl rfl rfl rfl rfl ?_)
        refine Pw.list (Pw.loadF d.1 rfl inferInstance rfl (by rw [Int.toNat_natCast]; exact hdi) rfl rfl rfl rfl ?_)
        repeat (first | refine Pw.runs ?_ | refine Pw.list (Pw.box rfl rfl rfl rfl (fun _ => ?_)) | refine Pw.list (Pw.alloc rfl rfl rfl rfl rfl (fun _ => ?_)))
        refine Pw.condD rfl (fun c4 => ?_) (fun c4 => ?_)
        · have hf : fnd st v p = some i := fnd_at hn hs (by rw [← hid]; exact hv) hp0 (by omega)
          repeat (first | refine Pw.runs ?_ | refine Pw.list (Pw.box rfl rfl rfl rfl (fun _ => ?_)) | refine Pw.list (Pw.alloc rfl rfl rfl rfl rfl (fun _ => ?_)))
          refine Pw.drawnG mixed rfl rfl ?_
          refine Pw.takeP 0 (nb 18 1) rfl rfl rfl rfl (by kernel_rfl) np sf ?_
          refine Pw.takeP 1 (nb 18 3) rfl rfl rfl rfl (by kernel_rfl) np sf ?_
          refine Pw.takeP 2 (nb 18 7) rfl rfl rfl rfl (by kernel_rfl) np sf ?_
          refine Pw.takeF 3 (nb 18 15) rfl rfl inferInstance rfl rfl rfl (by kernel_rfl) np sf ?_
          refine Pw.takeP 4 (nb 18 31) rfl rfl rfl rfl (by kernel_rfl) np sf ?_
          refine Pw.takeIx 5 (nb 18 63) rfl rfl rfl rfl rfl (by first | assumption | omega) (by first | assumption | omega) rfl rfl (by kernel_rfl) np sf ?_
          refine Pw.takeP 6 (nb 18 127) rfl rfl rfl rfl (by kernel_rfl) np sf ?_
          refine Pw.takeP 7 (nb 18 255) rfl rfl rfl rfl (by kernel_rfl) np sf ?_
          refine Pw.takeP 8 (nb 18 511) rfl rfl rfl rfl (by kernel_rfl) np sf ?_
          refine Pw.takeF 9 (nb 18 1023) rfl rfl inferInstance rfl rfl rfl (by kernel_rfl) np sf ?_
          refine Pw.takeP 10 (nb 18 2047) rfl rfl rfl rfl (by kernel_rfl) np sf ?_
          refine Pw.takeIx 11 (nb 18 4095) rfl rfl rfl rfl rfl (by first | assumption | omega) (by first | assumption | omega) rfl rfl (by kernel_rfl) np sf ?_
          refine Pw.takeFS 12 (nb 18 8191) rfl rfl rfl rfl rfl rfl rfl rfl (by kernel_rfl) np sf ?_
          refine Pw.takeLF d.1 13 (nb 18 16383) rfl rfl inferInstance rfl (by first | assumption | (rw [Int.toNat_natCast]; assumption)) rfl rfl rfl rfl (by kernel_rfl) np sf ?_
          refine Pw.takeP 14 (nb 18 32767) rfl rfl rfl rfl (by kernel_rfl) np sf ?_
          refine Pw.takeIx 15 (nb 18 65535) rfl rfl rfl rfl rfl (by first | assumption | omega) (by first | assumption | omega) rfl rfl (by kernel_rfl) np sf ?_
          refine Pw.takeP 16 (nb 18 131071) rfl rfl rfl rfl (by kernel_rfl) np sf ?_
          refine Pw.takeP 17 (nb 18 262143) rfl rfl rfl rfl (by kernel_rfl) np sf ?_
          refine Pw.done (by kernel_rfl) ?_
          repeat (first | refine Pw.runs ?_ | refine Pw.list (Pw.box rfl rfl rfl rfl (fun _ => ?_)) | refine Pw.list (Pw.alloc rfl rfl rfl rfl rfl (fun _ => ?_)))
          exact Pw.ret_ (x := ()) (.tmp rfl (.tmp rfl .nil)) (by rw [hf]; show _ = Value.tuple #[onP (some ad, c) i, pgP ds i p.toNat]; unfold pgP; rw [hd]; rfl) trivial (fun w h => trivial)
        · repeat (first | refine Pw.runs ?_ | refine Pw.list (Pw.box rfl rfl rfl rfl (fun _ => ?_)) | refine Pw.list (Pw.alloc rfl rfl rfl rfl rfl (fun _ => ?_)))
          refine Pw.re (d := 14) (v' := .int .i64 ((i + 1 : Nat) : Int)) rfl (congrArg (Value.int .i64) (i64s (n := 100000) (by omega) (by omega))) ?_
          exact Pw.again (i + 1) ⟨by omega, fun j hj t ht => by
            rcases Nat.lt_or_ge j i with h | h
            · exact hno j h t ht
            · obtain rfl : j = i := by omega
              rw [hs] at ht
              obtain rfl := Option.some.inj ht
              intro hh; omega⟩ (by show ds.length - (i + 1) < ds.length - i; omega) ⟨rfl, rfl, rfl, rfl, rfl, trivial⟩ rfl (fun w h => allTail (allTail h))
      · refine Pw.re (d := 32) (v' := .bool false) rfl (congrArg Value.bool (decide_eq_false hp0)) ?_
        repeat (first | refine Pw.runs ?_ | refine Pw.list (Pw.box rfl rfl rfl rfl (fun _ => ?_)) | refine Pw.list (Pw.alloc rfl rfl rfl rfl rfl (fun _ => ?_)))
        refine Pw.re (d := 14) (v' := .int .i64 ((i + 1 : Nat) : Int)) rfl (congrArg (Value.int .i64) (i64s (n := 100000) (by omega) (by omega))) ?_
        exact Pw.again (i + 1) ⟨by omega, fun j hj t ht => by
          rcases Nat.lt_or_ge j i with h | h
          · exact hno j h t ht
          · exact fun hh => hp0 hh.2.1⟩ (by show ds.length - (i + 1) < ds.length - i; omega) ⟨rfl, rfl, rfl, rfl, rfl, trivial⟩ rfl (fun w h => allTail h)
    · refine Pw.re (d := 28) (v' := .bool false) rfl (congrArg Value.bool (decide_eq_false hv)) ?_
      repeat (first | refine Pw.runs ?_ | refine Pw.list (Pw.box rfl rfl rfl rfl (fun _ => ?_)) | refine Pw.list (Pw.alloc rfl rfl rfl rfl rfl (fun _ => ?_)))
      refine Pw.re (d := 14) (v' := .int .i64 ((i + 1 : Nat) : Int)) rfl (congrArg (Value.int .i64) (i64s (n := 100000) (by omega) (by omega))) ?_
      exact Pw.again (i + 1) ⟨by omega, fun j hj t ht => by
        rcases Nat.lt_or_ge j i with h | h
        · exact hno j h t ht
        · obtain rfl : j = i := by omega
          rw [hs] at ht
          obtain rfl := Option.some.inj ht
          exact fun hh => hv (by rw [hid]; exact hh.1)⟩ (by show ds.length - (i + 1) < ds.length - i; omega) ⟨rfl, rfl, rfl, rfl, rfl, trivial⟩ rfl (fun w h => allTail h)
  · obtain rfl : i = ds.length := by omega
    have hf : fnd st v p = none := by
      cases hf : fnd st v p with
      | none => rfl
      | some j =>
        obtain ⟨s, hs, h1, h2, h3⟩ := fnd_some hf
        exact absurd ⟨h1, h2, h3⟩ (hno j (by have := (List.getElem?_eq_some_iff.1 hs).1; omega) s hs)
    repeat (first | refine Pw.runs ?_ | refine Pw.list (Pw.box rfl rfl rfl rfl (fun _ => ?_)) | refine Pw.list (Pw.alloc rfl rfl rfl rfl rfl (fun _ => ?_)))
    exact Pw.ret_ (x := ()) (.tmp rfl (.tmp rfl .nil)) (by rw [hf]; rfl) trivial (fun w h => trivial)
end Go.Proofs.Wk
/- The document's reward: plain; Open. -/
namespace Go.Proofs.Wk
open Go.RowKit
set_option maxRecDepth 100000
set_option maxHeartbeats 8000000
attribute [local irreducible] Pw OpG
set_option linter.unusedVariables false
set_option linter.unusedSimpArgs false
theorem flat_set1 {α : Type} {enc : α → List Value} {sz : Nat} (hs : ∀ y, (enc y).length = sz) {i : Nat} (hi : i < sz) {v : Value} {y y' : α} (he : (enc y).set i v = enc y') (ex : List Value) : ∀ {l : List α} {j : Nat}, l[j]? = some y → (l.flatMap enc ++ ex).set (j * sz + i) v = (l.set j y').flatMap enc ++ ex
  | [], j, h => by cases h
  | x :: l, 0, h => by
    have : x = y := Option.some.inj h
    subst this
    rw [List.set_cons_zero, List.flatMap_cons, List.flatMap_cons, Nat.zero_mul, Nat.zero_add, List.append_assoc, List.append_assoc, List.set_append_left _ _ (by rw [hs]; exact hi), he]
  | x :: l, j + 1, h => by
    have h : l[j]? = some y := h
    rw [List.set_cons_succ, List.flatMap_cons, List.flatMap_cons, List.append_assoc, List.append_assoc, List.set_append_right _ _ (by rw [hs, Nat.add_mul]; omega), hs, show (j + 1) * sz + i - sz = j * sz + i by rw [Nat.add_mul]; omega, flat_set1 hs hi he ex h]
theorem zip_set_r {α β : Type} {x : β} {b : α} : ∀ {l : List α} {m : List β} {j : Nat}, l[j]? = some b → l.zip (m.set j x) = (l.zip m).set j (b, x)
  | [], m, j, h => by cases h
  | c :: l, [], j, h => by simp
  | c :: l, y :: m, 0, h => by
    have : c = b := Option.some.inj h
    subst this; simp
  | c :: l, y :: m, j + 1, h => by
    have h : l[j]? = some b := h
    simp [zip_set_r h]
/-- A page is paid. -/
def setP (d : Dn × List Bool) (p : Nat) : Dn × List Bool := (d.1, d.2.set p true)
theorem cellsD_set {d : Dn × List Bool} {p : Nat} {q : Pg} {b : Int} {o : Bool} (hq : d.1.pg[p]? = some q) (hb : d.1.bu[p]? = some b) (hr : (rowD d)[p]? = some (q, b, o)) : (cellsD d).set (0 + p * 3 + 2) (.bool true) = cellsD (setP d p) := by
  have h1 : rowD (setP d p) = (rowD d).set p (q, b, true) := by
    unfold rowD setP
    dsimp only
    rw [zip_set_r hb, zip_set_r hq]
  show _ = (rowD (setP d p)).flatMap encD ++ d.1.ex
  rw [h1, Nat.zero_add]
  exact flat_set1 (enc := encD) (sz := 3) (i := 2) (v := .bool true) (fun _ => rfl) (by omega) (y := (q, b, o)) rfl d.1.ex hr
theorem permD3 : ∀ {ds : Ds} {j : Nat} {d : Dn × List Bool}, ds[j]? = some d → (dL ds).Perm (dB d :: dL (ds.eraseIdx j))
  | [], j, d, h => by cases h
  | t :: ds, 0, d, h => by
    rw [← Option.some.inj h]; exact .refl _
  | t :: ds, j + 1, d, h => by
    have ih := permD3 (ds := ds) (j := j) h
    exact (List.Perm.cons _ ih).trans (.swap ..)
theorem permDs : ∀ {ds : Ds} {j : Nat} {d d' : Dn × List Bool}, ds[j]? = some d → (dB d' :: dL (ds.eraseIdx j)).Perm (dL (ds.set j d'))
  | [], j, d, d', h => by cases h
  | t :: ds, 0, d, d', h => .refl _
  | t :: ds, j + 1, d, d', h => by
    have ih := permDs (ds := ds) (j := j) (d' := d') h
    exact (List.Perm.swap ..).trans (List.Perm.cons _ ih)
/-- The document's state behind Pay. -/
def payD (st : Sr) (ds : Ds) (v p : Int) : Ds := match fnd st v p with
  | none => ds
  | some j => match st[j]?, ds[j]? with
    | some s, some d => if paidB s p.toNat = true then ds else ds.set j (setP d p.toNat)
    | _, _ => ds
theorem pdOf_set {s : Ent × List Int} (h : Wf s) {p : Nat} (hp : p < s.1.pg.length) : pdOf (setB s p) = (pdOf s).set p true := by
  refine List.ext_getElem? fun i => ?_
  rw [List.getElem?_set, pd_len]
  rcases Nat.lt_or_ge i s.1.pg.length with hi | hi
  · rw [show (pdOf (setB s p))[i]? = some (paidB (setB s p) i) from pd_get (s := setB s p) hi, paid_set h hp hi, pd_get hi]
    by_cases e : p = i
    · subst e; rw [if_pos rfl, if_pos hp]; simp
    · rw [if_neg e, decide_eq_false (fun h => e h.symm), Bool.or_false]
  · rw [List.getElem?_eq_none (by rw [pd_len]; exact hi), if_neg (by omega), List.getElem?_eq_none (by rw [pd_len]; exact hi)]
theorem Mt.pay {st : Sr} {ds : Ds} (h : Mt st ds) (hw : ∀ s ∈ st, Wf s) (v p : Int) : Mt (payS st v p) (payD st ds v p) ∧ (payD st ds v p).map Prod.fst = ds.map Prod.fst := by
  unfold payS payD
  cases hf : fnd st v p with
  | none => exact ⟨h, rfl⟩
  | some j =>
    obtain ⟨s, hs, hid, h0, h1⟩ := fnd_some hf
    obtain ⟨d, hd, _⟩ := get_at (show j < ds.length by rw [h.l]; exact (List.getElem?_eq_some_iff.1 hs).1)
    dsimp only
    rw [hs, hd]
    dsimp only
    have hwf := hw s (List.mem_of_getElem? hs)
    have hmt := h.a j s d hs hd
    have hjd := (List.getElem?_eq_some_iff.1 hd).1
    have hjs := (List.getElem?_eq_some_iff.1 hs).1
    split
    · exact ⟨h, rfl⟩
    · refine ⟨⟨by rw [List.length_set, List.length_set]; exact h.l, fun i s' d' hs' hd' => ?_⟩, ?_⟩
      · rw [List.getElem?_set] at hs' hd'
        by_cases e : j = i
        · subst e
          rw [if_pos rfl, if_pos hjs] at hs'
          rw [if_pos rfl, if_pos hjd] at hd'
          obtain rfl := Option.some.inj hs'
          obtain rfl := Option.some.inj hd'
          exact ⟨hmt.x, hmt.p, hmt.b, by rw [pdOf_set hwf (by omega)]; show d.2.set _ _ = _; rw [hmt.d]⟩
        · rw [if_neg e] at hs' hd'
          exact h.a i s' d' hs' hd'
      · refine List.ext_getElem? fun i => ?_
        rw [List.getElem?_map, List.getElem?_map, List.getElem?_set]
        by_cases e : j = i
        · subst e; rw [if_pos rfl, if_pos hjd, hd]; rfl
        · rw [if_neg e]
abbrev DkA (ds : Ds) (W : World) : Prop := ∀ d ∈ ds, W.heap[d.1.gp]? = some (row (cellsD d) 46)
theorem rOpen_ct (gr : Nat) (z : Option Addr × Nat) (left : Int) (st : Sr) (ds : Ds) (hm : Mt st ds) (hw : ∀ s ∈ st, Wf s) (hu : ∀ s ∈ st, Eu s) (hl : st.length ≤ 1000) (hb : openS st ≤ 18446744073709551615) : Ct Tryz.prog 16 #[.pointer (some ⟨gr, 0, none⟩)] (fun W => drF gr z left (ds.map Prod.fst) W ∧ DkA ds W)
    (fun _ : Unit => .int .u64 (openS st)) Tt (fun _ _ => True) := by
  obtain ⟨A, c⟩ := z
  have hdl := hm.l
  have hml : (ds.map Prod.fst).length = ds.length := List.length_map ..
  refine Ct.start Tryz.func16 rfl rfl (slots_of rfl slots1) (fun D w0 => Pw.facts (G' := [fun W => W.heap[gr]? = some (row [.slice A (ds.map Prod.fst).length c, .int .u64 left] 54), OnS (ds.map Prod.fst) (A, c), DkA ds]) (fun w h => allCons (fact0 h).1.1 (allCons (fact0 h).1.2 (allCons (fact0 h).2 allNil))) ?_)
  rw [hml]
  repeat (first | refine Pw.runs ?_ | refine Pw.list (Pw.box rfl rfl rfl rfl (fun _ => ?_)) | refine Pw.list (Pw.alloc rfl rfl rfl rfl rfl (fun _ => ?_)))
  refine Pw.loopJ (σ := Nat) (fun i => i ≤ ds.length) (fun i => ⟨[(0, .pointer (some ⟨gr, 0, none⟩)), (3, .int .u64 (sumL (opAt st) (List.range i))), (10, .int .i64 ds.length), (11, .int .i64 i)], [], [fun W => W.heap[gr]? = some (row [.slice A ds.length c, .int .u64 left] 54), OnS (ds.map Prod.fst) (A, c), DkA ds]⟩) (fun i => ds.length - i) 0 (Nat.zero_le _) (Pw.enter ⟨rfl, rfl, rfl, rfl, trivial⟩ (fun w h => h)) ?_
  rintro i hi
  dsimp only at hi ⊢
  repeat (first | refine Pw.runs ?_ | refine Pw.list (Pw.box rfl rfl rfl rfl (fun _ => ?_)) | refine Pw.list (Pw.alloc rfl rfl rfl rfl rfl (fun _ => ?_)))
  refine Pw.condD rfl (fun c3 => ?_) (fun c3 => ?_)
  · obtain ⟨d, hd, hdm⟩ := get_at (show i < ds.length by omega)
    obtain ⟨s, hs, hsm⟩ := get_at (show i < st.length by omega)
    have h1 := hm.a i s d hs hd
    have hdl2 := h1.len
    have hwf := hw s hsm
    have heu := hu s hsm
    have hn4 := hwf.n
    have hbl := hwf.b
    have hi0 : (0 : Int) ≤ (i : Int) := Int.natCast_nonneg i
    have hdi : (ds.map Prod.fst)[i]? = some d.1 := by rw [List.getElem?_map, hd]; rfl
    have hat : opAt st i = opE s := by unfold opAt; rw [hs]
    have hp1 := sumL_sub (List.range_sublist.2 (show i + 1 ≤ st.length by omega)) (opAt_nn hu)
    rw [List.range_succ, sumL_snoc, hat] at hp1
    have hp0 := sumL_nonneg (l := List.range i) fun j _ => opAt_nn hu j
    have hb' : sumL (opAt st) (List.range st.length) ≤ 18446744073709551615 := hb
    refine Pw.use (p := A.isSome = true) (fun w h => (fact1 h).has hi0 (by rw [hml]; exact c3)) (fun hA => ?_)
    obtain ⟨ad, rfl⟩ := Option.isSome_iff_exists.1 hA
    repeat (first | refine Pw.runs ?_ | refine Pw.list (Pw.box rfl rfl rfl rfl (fun _ => ?_)) | refine Pw.list (Pw.alloc rfl rfl rfl rfl rfl (fun _ => ?_)))
    refine Pw.list (Pw.indexS rfl rfl rfl rfl hi0 c3 rfl rfl ?_)
    refine Pw.list (Pw.fieldS rfl rfl rfl rfl rfl rfl rfl ?_)
    refine Pw.list (Pw.loadF d.1 rfl inferInstance rfl (by rw [Int.toNat_natCast]; exact hdi) rfl rfl rfl rfl ?_)
    repeat (first | refine Pw.runs ?_ | refine Pw.list (Pw.box rfl rfl rfl rfl (fun _ => ?_)) | refine Pw.list (Pw.alloc rfl rfl rfl rfl rfl (fun _ => ?_)))
    refine Pw.loopJ (σ := Nat) (fun k => k ≤ d.1.pg.length) (fun k => ⟨[(0, .pointer (some ⟨gr, 0, none⟩)), (3, .int .u64 (sumL (opAt st) (List.range i) + opT s k)), (4, .int .i64 i), (10, .int .i64 ds.length), (11, .int .i64 i), (22, .int .i64 d.1.pg.length), (23, .int .i64 k)], [], [fun W => W.heap[gr]? = some (row [.slice (some ad) ds.length c, .int .u64 left] 54), OnS (ds.map Prod.fst) (some ad, c), DkA ds]⟩) (fun k => d.1.pg.length - k) 0 (Nat.zero_le _) (by
      intro X h
      dsimp only at h
      refine Pw.enter ?_ ?_ X h
      · exact ⟨rfl, by show some _ = some (Value.int .u64 (sumL (opAt st) (List.range i) + 0)); rw [Int.add_zero], rfl, rfl, rfl, rfl, rfl, trivial⟩
      · exact fun w h => allTail h) ?_
    rintro k hk
    dsimp only at hk ⊢
    repeat (first | refine Pw.runs ?_ | refine Pw.list (Pw.box rfl rfl rfl rfl (fun _ => ?_)) | refine Pw.list (Pw.alloc rfl rfl rfl rfl rfl (fun _ => ?_)))
    refine Pw.condD rfl (fun c4 => ?_) (fun c4 => ?_)
    · have hk0 : (0 : Int) ≤ (k : Int) := Int.natCast_nonneg k
      have hkl : k < s.1.pg.length := by omega
      obtain ⟨q, zq, hq, hqe, hr⟩ := h1.row hwf hkl
      have hT := opT_le heu (k := k) (m := s.1.bu.length) (by omega)
      have hT2 := opT_le heu (k := k + 1) (m := s.1.bu.length) (by omega)
      have hsn := opT_succ s k
      have hE : opE s = opT s s.1.bu.length := rfl
      repeat (first | refine Pw.runs ?_ | refine Pw.list (Pw.box rfl rfl rfl rfl (fun _ => ?_)) | refine Pw.list (Pw.alloc rfl rfl rfl rfl rfl (fun _ => ?_)))
      refine Pw.list (Pw.indexS rfl rfl rfl rfl hi0 c3 rfl rfl ?_)
      refine Pw.list (Pw.fieldS rfl rfl rfl rfl rfl rfl rfl ?_)
      refine Pw.list (Pw.loadF d.1 rfl inferInstance rfl (by rw [Int.toNat_natCast]; exact hdi) rfl rfl rfl rfl ?_)
      repeat (first | refine Pw.runs ?_ | refine Pw.list (Pw.box rfl rfl rfl rfl (fun _ => ?_)) | refine Pw.list (Pw.alloc rfl rfl rfl rfl rfl (fun _ => ?_)))
      refine Pw.list (Pw.indexS rfl rfl rfl rfl hk0 c4 rfl rfl ?_)
      refine Pw.list (Pw.fieldS rfl rfl rfl rfl rfl rfl rfl ?_)
      refine Pw.list (Pw.load1 (v := .bool (paidB s k)) rfl rfl (fun w hs => by rw [add_add, add_none, cell_of_blk ((hv w hs.all : DkA ds w) d hdm), Nat.zero_add]; exact cellD hr 2 (by omega)) rfl rfl ?_)
      cases hpb : paidB s k
      · have hI : opI s k = buI s.1 k := by unfold opI; rw [hpb, if_neg Bool.false_ne_true]; rfl
        rw [hI] at hsn
        repeat (first | refine Pw.runs ?_ | refine Pw.list (Pw.box rfl rfl rfl rfl (fun _ => ?_)) | refine Pw.list (Pw.alloc rfl rfl rfl rfl rfl (fun _ => ?_)))
        refine Pw.list (Pw.indexS rfl rfl rfl rfl hi0 c3 rfl rfl ?_)
        refine Pw.list (Pw.fieldS rfl rfl rfl rfl rfl rfl rfl ?_)
        refine Pw.list (Pw.loadF d.1 rfl inferInstance rfl (by rw [Int.toNat_natCast]; exact hdi) rfl rfl rfl rfl ?_)
        repeat (first | refine Pw.runs ?_ | refine Pw.list (Pw.box rfl rfl rfl rfl (fun _ => ?_)) | refine Pw.list (Pw.alloc rfl rfl rfl rfl rfl (fun _ => ?_)))
        refine Pw.list (Pw.indexS rfl rfl rfl rfl hk0 c4 rfl rfl ?_)
        refine Pw.list (Pw.fieldS rfl rfl rfl rfl rfl rfl rfl ?_)
        refine Pw.list (Pw.load1 (v := .int .u64 (buI s.1 k)) rfl rfl (fun w hs => by rw [add_add, add_none, cell_of_blk ((hv w hs.all : DkA ds w) d hdm), Nat.zero_add]; exact cellD hr 1 (by omega)) rfl rfl ?_)
        repeat (first | refine Pw.runs ?_ | refine Pw.list (Pw.box rfl rfl rfl rfl (fun _ => ?_)) | refine Pw.list (Pw.alloc rfl rfl rfl rfl rfl (fun _ => ?_)))
        refine Pw.re (d := 3) (v' := .int .u64 (sumL (opAt st) (List.range i) + opT s (k + 1))) rfl (congrArg (Value.int .u64) (by rw [hsn, ← Int.add_assoc]; exact wu (by omega) (by omega))) ?_
        refine Pw.re (d := 23) (v' := .int .i64 ((k + 1 : Nat) : Int)) rfl (congrArg (Value.int .i64) (i64s (n := 100000) (by omega) (by omega))) ?_
        exact Pw.again (k + 1) (by omega) (by show d.1.pg.length - (k + 1) < d.1.pg.length - k; omega) ⟨rfl, rfl, rfl, rfl, rfl, rfl, rfl, trivial⟩ rfl (fun w h => allTail (allTail h))
      · have hI : opI s k = 0 := by unfold opI; rw [hpb, if_pos rfl]
        rw [hI, Int.add_zero] at hsn
        repeat (first | refine Pw.runs ?_ | refine Pw.list (Pw.box rfl rfl rfl rfl (fun _ => ?_)) | refine Pw.list (Pw.alloc rfl rfl rfl rfl rfl (fun _ => ?_)))
        refine Pw.re (d := 23) (v' := .int .i64 ((k + 1 : Nat) : Int)) rfl (congrArg (Value.int .i64) (i64s (n := 100000) (by omega) (by omega))) ?_
        exact Pw.again (k + 1) (by omega) (by show d.1.pg.length - (k + 1) < d.1.pg.length - k; omega) (by dsimp only; rw [hsn]; exact ⟨rfl, rfl, rfl, rfl, rfl, rfl, rfl, trivial⟩) rfl (fun w h => allTail h)
    · have e : k = s.1.bu.length := by omega
      rw [e, show sumL (opAt st) (List.range i) + opT s s.1.bu.length = sumL (opAt st) (List.range (i + 1)) by rw [List.range_succ, sumL_snoc, hat]; rfl]
      repeat (first | refine Pw.runs ?_ | refine Pw.list (Pw.box rfl rfl rfl rfl (fun _ => ?_)) | refine Pw.list (Pw.alloc rfl rfl rfl rfl rfl (fun _ => ?_)))
      refine Pw.re (d := 11) (v' := .int .i64 ((i + 1 : Nat) : Int)) rfl (congrArg (Value.int .i64) (i64s (n := 100000) (by omega) (by omega))) ?_
      exact Pw.again (i + 1) (by omega) (by show ds.length - (i + 1) < ds.length - i; omega) ⟨rfl, rfl, rfl, rfl, trivial⟩ rfl (fun w h => h)
  · obtain rfl : i = ds.length := by omega
    repeat (first | refine Pw.runs ?_ | refine Pw.list (Pw.box rfl rfl rfl rfl (fun _ => ?_)) | refine Pw.list (Pw.alloc rfl rfl rfl rfl rfl (fun _ => ?_)))
    exact Pw.ret_ (x := ()) (.tmp rfl .nil) (by show Value.int .u64 (sumL (opAt st) (List.range ds.length)) = _; rw [hdl]; rfl) trivial (fun w h => trivial)
end Go.Proofs.Wk
/- The document's reward: Pay. -/
namespace Go.Proofs.Wk
open Go.RowKit
set_option maxRecDepth 100000
set_option maxHeartbeats 8000000
attribute [local irreducible] Pw OpG
set_option linter.unusedVariables false
set_option linter.unusedSimpArgs false
theorem rPay_ct (gr : Nat) (z : Option Addr × Nat) (left : Int) (st : Sr) (ds : Ds) (v p : Int) (hm : Mt st ds) (hn : (idsS st).Nodup) (hw : ∀ s ∈ st, Wf s) (hu : ∀ s ∈ st, Eu s) (hl : st.length ≤ 1000) : CtB Tryz.prog 13 #[.pointer (some ⟨gr, 0, none⟩), .int .i64 v, .int .i64 p] (dL ds) (drF gr z left (ds.map Prod.fst))
    (fun z' : Option Addr × Nat => .tuple #[psV (payA st v p).1 z', .int .u64 (payA st v p).2.1, .int .i64 (payA st v p).2.2]) Tt (fun _ => dL (payD st ds v p)) (fun z' => PS (payA st v p).1 z') := by
  obtain ⟨A, c⟩ := z
  have hdl := hm.l
  have hml : (ds.map Prod.fst).length = ds.length := List.length_map ..
  have hF := rFind_ct gr (A, c) left st ds v p hm hn hl
  refine CtB.start Tryz.func13 rfl rfl (slots_of rfl slots3) (fun D0 w0 => ?_)
  repeat (first | refine Pw.runs ?_ | refine Pw.list (Pw.box rfl rfl rfl rfl (fun _ => ?_)) | refine Pw.list (Pw.alloc rfl rfl rfl rfl rfl (fun _ => ?_)))
  cases hf : fnd st v p with
  | none =>
    have e : payA st v p = ([], 0, 5) := by unfold payA; rw [hf]
    have e2 : payD st ds v p = ds := by unfold payD; rw [hf]
    rw [hf] at hF
    rw [e, e2]
    refine Pw.list (Pw.call hF rfl rfl rfl (by kernel_rfl) rfl rfl (fun w h => (hv w h)) ?_)
    intro _ _
    repeat (first | refine Pw.runs ?_ | refine Pw.list (Pw.box rfl rfl rfl rfl (fun _ => ?_)) | refine Pw.list (Pw.alloc rfl rfl rfl rfl rfl (fun _ => ?_)))
    exact Pw.retB (x := (none, 0)) (List.Sublist.refl _) (.tmp rfl (.tmp rfl (.tmp rfl .nil))) rfl trivial (fun w h => Rows.nil _ _ _ _ _)
  | some j =>
    obtain ⟨s, hs, hid, h0, h1⟩ := fnd_some hf
    obtain ⟨P, rfl⟩ : ∃ P : Nat, p = P := ⟨p.toNat, by omega⟩
    have hsm := List.mem_of_getElem? hs
    have hPs : P < s.1.pg.length := by omega
    have hjs := (List.getElem?_eq_some_iff.1 hs).1
    obtain ⟨d, hd, hdm⟩ := get_at (show j < ds.length by omega)
    have hmt := hm.a j s d hs hd
    have hwf := hw s hsm
    have heu := hu s hsm
    obtain ⟨q, zq, hq, hqe, hr⟩ := hmt.row hwf hPs
    have hdj : (ds.map Prod.fst)[j]? = some d.1 := by rw [List.getElem?_map, hd]; rfl
    have hbl := hwf.b
    have hbi : s.1.bu[P]? = some (buI s.1 P) := by
      obtain ⟨b, hb, _⟩ := get_at (show P < s.1.bu.length by omega)
      rw [hb]; unfold buI; rw [hb]; rfl
    have hbd : d.1.bu[P]? = some (buI s.1 P) := by rw [hmt.b]; exact hbi
    have hbU : U64 (buI s.1 P) := heu.b _ (List.mem_of_getElem? hbi)
    have hqp : q.length ≤ 100000 ∧ ∀ n ∈ stk q, U64 n := by
      cases hc : s.1.pg[P]? with
      | none => rw [hc] at hqe; cases hqe
      | some t =>
        rw [hc] at hqe
        have e : t.1 = q := Option.some.inj hqe
        rw [← e]
        exact heu.p t (List.mem_of_getElem? hc)
    have uc := heu.c
    have hdx : d.1.x.com = s.1.x.com := by rw [hmt.x]
    have e0 : payA st v (P : Int) = (if paidB s P = true then ([], 0, 17) else (payL v (buI s.1 P) s.1.x.com q, (amtE (buI s.1 P) s.1.x.com q).2, 0)) := by
      unfold payA; rw [hf]; dsimp only; rw [hs]; dsimp only; rw [Int.toNat_natCast, hqe]; rfl
    have e1 : payD st ds v (P : Int) = (if paidB s P = true then ds else ds.set j (setP d P)) := by
      unfold payD; rw [hf]; dsimp only; rw [hs, hd]; dsimp only; rw [Int.toNat_natCast]
    have hpg : pgP ds j (P : Int).toNat = .pointer (some ⟨d.1.gp, 0 + P * 3, none⟩) := by unfold pgP; rw [hd, Int.toNat_natCast]; dsimp only; rw [add_none]
    rw [hf] at hF
    dsimp only at hF
    rw [hpg] at hF
    refine Pw.use (p := A.isSome = true) (fun w h => (fact0 h).2.has (i := (j : Int)) (by omega) (by omega)) (fun hA => ?_)
    obtain ⟨ad, rfl⟩ := Option.isSome_iff_exists.1 hA
    rw [show onP (some ad, c) j = .pointer (some (ad.add ((j : Int).toNat * 5))) from rfl] at hF
    have hc2 : (cellsD d)[0 + P * 3 + 2]? = some (.bool (paidB s P)) := by rw [Nat.zero_add]; exact cellD hr 2 (by omega)
    rw [e0, e1]
    refine Pw.list (Pw.call hF rfl rfl rfl (by kernel_rfl) rfl rfl (fun w h => (hv w h)) ?_)
    intro _ _
    repeat (first | refine Pw.runs ?_ | refine Pw.list (Pw.box rfl rfl rfl rfl (fun _ => ?_)) | refine Pw.list (Pw.alloc rfl rfl rfl rfl rfl (fun _ => ?_)))
    refine Pw.list (Pw.loadO (g := d.1.gp) (i := 0 + P * 3 + 2) (cs := cellsD d) (t := 46) rfl rfl (List.mem_map_of_mem (f := dB) hdm) hc2 rfl rfl ?_)
    cases hpb : paidB s P
    · rw [if_neg Bool.false_ne_true, if_neg Bool.false_ne_true]
      have hcs := cellsD_set hq hbd hr
      have hc0 : (cellsD (setP d P))[0 + P * 3 + 0]? = some (psV q zq) := by rw [← hcs, List.getElem?_set_ne (by omega), Nat.zero_add]; exact cellD hr 0 (by omega)
      have hc1 : (cellsD (setP d P))[0 + P * 3 + 1]? = some (.int .u64 (buI s.1 P)) := by rw [← hcs, List.getElem?_set_ne (by omega), Nat.zero_add]; exact cellD hr 1 (by omega)
      obtain ⟨b, hb⟩ : ∃ b, buI s.1 P = b := ⟨_, rfl⟩
      obtain ⟨com, hcom⟩ : ∃ com, s.1.x.com = com := ⟨_, rfl⟩
      rw [hcom] at uc hdx
      rw [hb] at hbU hc1
      rw [hb, hcom]
      refine Pw.perm (permD3 hd) ?_
      repeat (first | refine Pw.runs ?_ | refine Pw.list (Pw.box rfl rfl rfl rfl (fun _ => ?_)) | refine Pw.list (Pw.alloc rfl rfl rfl rfl rfl (fun _ => ?_)))
      refine Pw.list (Pw.storeO rfl rfl rfl rfl rfl (List.getElem?_eq_some_iff.1 hc2).1 hcs .head rfl ?_)
      obtain ⟨cs, hcse⟩ : ∃ cs, cellsD (setP d P) = cs := ⟨_, rfl⟩
      obtain ⟨R, hR⟩ : ∃ R, dL (ds.eraseIdx j) = R := ⟨_, rfl⟩
      rw [hcse] at hc0 hc1 ⊢
      rw [hR]
      refine Pw.eqL (L' := ⟨d.1.gp, row cs 46⟩ :: R) rfl ?_
      repeat (first | refine Pw.runs ?_ | refine Pw.list (Pw.box rfl rfl rfl rfl (fun _ => ?_)) | refine Pw.list (Pw.alloc rfl rfl rfl rfl rfl (fun _ => ?_)))
      refine Pw.more (fun w h => (hv w h : drF gr (some ad, c) left (ds.map Prod.fst) w).2) ?_
      refine Pw.more (fun w h => ((hv w h : OnS (ds.map Prod.fst) (some ad, c) w).at hdj).2.1 (q, zq) (List.mem_of_getElem? hq)) ?_
      refine Pw.facts (G' := [PS q zq, OnS (ds.map Prod.fst) (some ad, c)]) (fun w h => allCons (fact0 h) (allCons (fact1 h) allNil)) ?_
      refine Pw.drawnH (g := d.1.gp) inferInstance mixed rfl rfl ?_
      refine Pw.takeP 0 (nb 15 1) rfl rfl rfl rfl (by kernel_rfl) np so ?_
      refine Pw.takeP 1 (nb 15 3) rfl rfl rfl rfl (by kernel_rfl) np so ?_
      refine Pw.takeFS 2 (nb 15 7) rfl rfl rfl rfl rfl rfl rfl rfl (by kernel_rfl) np so ?_
      refine Pw.takeLO 3 (nb 15 15) rfl rfl inferInstance hc1 rfl rfl rfl (by kernel_rfl) np so ?_
      refine Pw.takeP 4 (nb 15 31) rfl rfl rfl rfl (by kernel_rfl) np so ?_
      refine Pw.takeP 5 (nb 15 63) rfl rfl rfl rfl (by kernel_rfl) np so ?_
      refine Pw.takeFS 6 (nb 15 127) rfl rfl rfl rfl rfl rfl rfl rfl (by kernel_rfl) np so ?_
      refine Pw.takeFS 7 (nb 15 255) rfl rfl rfl rfl rfl rfl rfl rfl (by kernel_rfl) np so ?_
      refine Pw.re (d := 44) (v' := .pointer (some ((ad.add ((j : Int).toNat * 5)).add 1))) rfl (congrArg (fun a => Value.pointer (some a)) (add_add _ _ _)) ?_
      refine Pw.takeLF d.1 8 (nb 15 511) rfl rfl inferInstance rfl (by rw [Int.toNat_natCast]; exact hdj) rfl rfl rfl rfl (by kernel_rfl) np so ?_
      refine Pw.re (d := 45) (v' := .int .u64 com) rfl (congrArg (Value.int .u64) hdx) ?_
      refine Pw.one 9 (nb 15 1023) rfl (by kernel_rfl) ?_
      refine Pw.call (tPart_ct b com 1000000000 hbU ⟨uc.1, by omega⟩ ⟨by omega, by omega⟩ (by omega) uc.2) rfl rfl rfl (by kernel_rfl) rfl rfl (fun w h => trivial) ?_
      intro _ _
      rw [show b * com / 1000000000 = comE b com from rfl]
      refine Pw.held so ?_
      refine Pw.takeP 10 (nb 15 2047) rfl rfl rfl rfl (by kernel_rfl) np so ?_
      refine Pw.takeP 11 (nb 15 4095) rfl rfl rfl rfl (by kernel_rfl) np so ?_
      refine Pw.takeP 12 (nb 15 8191) rfl rfl rfl rfl (by kernel_rfl) np so ?_
      refine Pw.takeP 13 (nb 15 16383) rfl rfl rfl rfl (by kernel_rfl) np so ?_
      refine Pw.takeP 14 (nb 15 32767) rfl rfl rfl rfl (by kernel_rfl) np so ?_
      refine Pw.done (by kernel_rfl) ?_
      skip
      repeat (first | refine Pw.runs ?_ | refine Pw.list (Pw.box rfl rfl rfl rfl (fun _ => ?_)) | refine Pw.list (Pw.alloc rfl rfl rfl rfl rfl (fun _ => ?_)))
      refine Pw.list (Pw.lit12 rfl rfl rfl rfl rfl rfl rfl rfl rfl (fun g1 => ?_))
      repeat (first | refine Pw.runs ?_ | refine Pw.list (Pw.box rfl rfl rfl rfl (fun _ => ?_)) | refine Pw.list (Pw.alloc rfl rfl rfl rfl rfl (fun _ => ?_)))
      refine Pw.list (Pw.loadO (g := d.1.gp) (i := 0 + P * 3 + 0) (cs := cs) (t := 46) rfl rfl (.tail _ (.head _)) hc0 rfl rfl ?_)
      repeat (first | refine Pw.runs ?_ | refine Pw.list (Pw.box rfl rfl rfl rfl (fun _ => ?_)) | refine Pw.list (Pw.alloc rfl rfl rfl rfl rfl (fun _ => ?_)))
      have hfl : ∀ i, i ≤ q.length → ((stk (q.take i)).map (Value.int .u64)).length = i := fun i hi => by rw [List.length_map, stk_len, List.length_take]; omega
      refine Pw.loopJ (σ := Nat × Gr) (fun t => t.1 ≤ q.length ∧ gOk t.2 ((stk (q.take t.1)).map (Value.int .u64)) t.1 1) (fun t => ⟨[(10, .pointer (some ⟨d.1.gp, 0 + P * 3, none⟩)), (11, .int .u64 (comE b com)), (13, .slice (some ⟨g1, 0, none⟩) 1 1), (14, gv t.2 t.1), (57, .int .i64 q.length), (58, .int .i64 t.1)], gL t.2 ((stk (q.take t.1)).map (Value.int .u64)) 22 ++ (⟨g1, row [.int .i64 v, .int .u64 (comE b com)] 93⟩ :: ⟨d.1.gp, row cs 46⟩ :: R), [PS q zq]⟩) (fun t => q.length - t.1) (0, none) ⟨Nat.zero_le _, rfl, rfl⟩ (by
        intro X h
        dsimp only at h
        refine Pw.enter ?_ ?_ X h
        · exact ⟨rfl, rfl, rfl, rfl, rfl, rfl, trivial⟩
        · exact fun w h => allCons (hv w h) allNil) ?_
      rintro ⟨i, qg⟩ ⟨hi, hqg⟩
      dsimp only at hi hqg ⊢
      repeat (first | refine Pw.runs ?_ | refine Pw.list (Pw.box rfl rfl rfl rfl (fun _ => ?_)) | refine Pw.list (Pw.alloc rfl rfl rfl rfl rfl (fun _ => ?_)))
      refine Pw.condD rfl (fun c3 => ?_) (fun c3 => ?_)
      · have hi0 : (0 : Int) ≤ (i : Int) := Int.natCast_nonneg i
        obtain ⟨pt, hpt, _⟩ := get_at (show i < q.length by omega)
        obtain ⟨Az, zc⟩ := zq
        refine Pw.use (p := Az.isSome = true) (fun w h => (fact0 h).has hi0 c3) (fun hA => ?_)
        obtain ⟨qd, rfl⟩ := Option.isSome_iff_exists.1 hA
        repeat (first | refine Pw.runs ?_ | refine Pw.list (Pw.box rfl rfl rfl rfl (fun _ => ?_)) | refine Pw.list (Pw.alloc rfl rfl rfl rfl rfl (fun _ => ?_)))
        refine Pw.list (Pw.loadO (g := d.1.gp) (i := 0 + P * 3 + 0) (cs := cs) (t := 46) rfl rfl (List.mem_append_right _ (.tail _ (.head _))) hc0 rfl rfl ?_)
        repeat (first | refine Pw.runs ?_ | refine Pw.list (Pw.box rfl rfl rfl rfl (fun _ => ?_)) | refine Pw.list (Pw.alloc rfl rfl rfl rfl rfl (fun _ => ?_)))
        refine Pw.list (Pw.indexS rfl rfl rfl rfl hi0 c3 rfl rfl ?_)
        refine Pw.list (Pw.fieldS rfl rfl rfl rfl rfl rfl rfl ?_)
        refine Pw.list (Pw.loadF pt rfl inferInstance rfl (by rw [Int.toNat_natCast]; exact hpt) rfl rfl rfl rfl ?_)
        refine Pw.list (Pw.lit1 rfl rfl rfl rfl rfl rfl rfl rfl rfl (fun g2 => ?_))
        refine freeHead ?_
        refine Pw.list (Pw.push (s := qg) (news := [.int .u64 pt.2]) rfl rfl rfl rfl rfl rfl rfl hqg rfl (fun u hu => by rw [List.mem_singleton.1 hu]; rfl) (fun w hs j u hu => by
          have h1 : w.heap[g2]? = some (row [.int .u64 pt.2] 22) := fact0 hs.all
          rw [add_none, cell_of_blk h1]
          simpa using hu) (by omega) (by simp only [maxLen]; omega) (by show (i + 1) * 8 ≤ _; omega) rfl rfl (fun q' hq' => ?_))
        have e4 : (stk (q.take i)).map (Value.int .u64) ++ [.int .u64 pt.2] = (stk (q.take (i + 1))).map (Value.int .u64) := by rw [stk_snoc hpt]; simp
        rw [e4] at hq' ⊢
        repeat (first | refine Pw.runs ?_ | refine Pw.list (Pw.box rfl rfl rfl rfl (fun _ => ?_)) | refine Pw.list (Pw.alloc rfl rfl rfl rfl rfl (fun _ => ?_)))
        refine Pw.re (d := 58) (v' := .int .i64 ((i + 1 : Nat) : Int)) rfl (congrArg (Value.int .i64) (i64s (n := 1000000) (by omega) (by omega))) ?_
        exact Pw.again (i + 1, q') ⟨by show i + 1 ≤ q.length; omega, hq'⟩ (by show q.length - (i + 1) < q.length - i; omega) ⟨rfl, rfl, rfl, rfl, rfl, rfl, trivial⟩ rfl (fun w h => allCons (hv w h) allNil)
      obtain rfl : i = q.length := by omega
      rw [List.take_length] at hqg ⊢
      refine Pw.freeG hqg (fun As cs' es hcs' => ?_)
      refine Pw.re (d := 14) (v' := sl (stk q) (As, cs')) rfl (by rw [es]; show Value.slice As _ cs' = .slice As (stk q).length cs'; rw [stk_len]) ?_
      have hcl := com_le hbU uc.1 uc.2
      have hb2 := hbU.2
      have hql := hqp.1
      repeat (first | refine Pw.runs ?_ | refine Pw.list (Pw.box rfl rfl rfl rfl (fun _ => ?_)) | refine Pw.list (Pw.alloc rfl rfl rfl rfl rfl (fun _ => ?_)))
      refine Pw.list (Pw.loadO (g := d.1.gp) (i := 0 + P * 3 + 1) (cs := cs) (t := 46) rfl rfl (.tail _ (.head _)) hc1 rfl rfl ?_)
      repeat (first | refine Pw.runs ?_ | refine Pw.list (Pw.box rfl rfl rfl rfl (fun _ => ?_)) | refine Pw.list (Pw.alloc rfl rfl rfl rfl rfl (fun _ => ?_)))
      refine Pw.re (d := 79) (v' := .int .u64 (b - comE b com)) rfl (congrArg (Value.int .u64) (wu (by omega) (by omega))) ?_
      by_cases hS : 0 < lsum (stk q) ∧ lsum (stk q) ≤ 18446744073709551615
      · have eA : amtE b com q = (spL (b - comE b com) (stk q), (b - comE b com) - lsum (spL (b - comE b com) (stk q))) := if_pos hS
        refine Pw.list (Pw.call (tSplitOk_ct (b - comE b com) (stk q) (As, cs') ⟨by omega, by omega⟩ hqp.2 (by rw [stk_len]; exact hqp.1) hS.1 hS.2) rfl rfl rfl (by kernel_rfl) rfl rfl (fun w h => ints_of_cells (by rw [stk_len]; exact hcs') (by rw [stk_len]; have := hqp.1; simp only [maxLen]; omega) (fact0 h)) ?_)
        intro zA _
        rw [show spL (b - comE b com) (stk q) = (amtE b com q).1 by rw [eA], show (b - comE b com) - lsum (amtE b com q).1 = (amtE b com q).2 by rw [eA]]
        refine Pw.facts (G' := [U1 (amtE b com q).1 zA, PS q zq]) (fun w h => allCons (fact0 h) (allCons (hv w h) allNil)) ?_
        have hal : (amtE b com q).1.length = q.length := by unfold amtE; rw [spF_len, stk_len]
        have hpyl : (payL v b com q).length = q.length + 1 := by unfold payL; rw [List.length_cons, List.length_zip, List.length_map, hal]; omega
        have hpt0 : (payL v b com q).take 1 = [(v, comE b com)] := by unfold payL; rfl
        repeat (first | refine Pw.runs ?_ | refine Pw.list (Pw.box rfl rfl rfl rfl (fun _ => ?_)) | refine Pw.list (Pw.alloc rfl rfl rfl rfl rfl (fun _ => ?_)))
        refine Pw.eqL (L' := gL (some (g1, 1, [])) (cellsP [(v, comE b com)]) 93 ++ (⟨d.1.gp, row cs 46⟩ :: R)) rfl ?_
        refine Pw.loopJ (σ := Nat × Gr) (fun t => t.1 ≤ q.length ∧ gOk t.2 (cellsP ((payL v b com q).take (t.1 + 1))) (t.1 + 1) 2) (fun t => ⟨[(10, .pointer (some ⟨d.1.gp, 0 + P * 3, none⟩)), (13, gv t.2 (t.1 + 1)), (16, sl (amtE b com q).1 zA), (17, .int .u64 (amtE b com q).2), (97, .int .i64 q.length), (98, .int .i64 t.1)], gL t.2 (cellsP ((payL v b com q).take (t.1 + 1))) 93 ++ (⟨d.1.gp, row cs 46⟩ :: R), [U1 (amtE b com q).1 zA, PS q zq]⟩) (fun t => q.length - t.1) (0, some (g1, 1, [])) ⟨Nat.zero_le _, by dsimp only; rw [hpt0]; exact ⟨rfl, Nat.le_refl _, rfl⟩⟩ (by
          intro X h
          dsimp only at h
          rw [hpt0] at h
          refine Pw.enter ?_ ?_ X h
          · exact ⟨rfl, rfl, rfl, rfl, by show some _ = some (Value.int .i64 ((q.length : Nat) : Int)); rw [hal], rfl, trivial⟩
          · exact fun w h => h) ?_
        rintro ⟨m, qg⟩ ⟨hm2, hqg⟩
        dsimp only at hm2 hqg ⊢
        repeat (first | refine Pw.runs ?_ | refine Pw.list (Pw.box rfl rfl rfl rfl (fun _ => ?_)) | refine Pw.list (Pw.alloc rfl rfl rfl rfl rfl (fun _ => ?_)))
        refine Pw.condD rfl (fun c5 => ?_) (fun c5 => ?_)
        · have hm0 : (0 : Int) ≤ (m : Int) := Int.natCast_nonneg m
          obtain ⟨pt, hpt, _⟩ := get_at (show m < q.length by omega)
          obtain ⟨am, ham, _⟩ := get_at (show m < (amtE b com q).1.length by omega)
          have c6 : (m : Int) < (((amtE b com q).1.length : Nat) : Int) := by omega
          have htk : (payL v b com q).take (m + 1 + 1) = (payL v b com q).take (m + 1) ++ [(pt.1, am)] := by
            unfold payL
            rw [List.take_succ_cons, List.take_succ_cons, zip_snoc hpt ham]; rfl
          obtain ⟨zA1, zA2⟩ := zA
          refine Pw.use (p := zA1.isSome = true) (fun w h => (fact0 h).has hm0 c6) (fun hA => ?_)
          obtain ⟨zad, rfl⟩ := Option.isSome_iff_exists.1 hA
          obtain ⟨Az, zc⟩ := zq
          refine Pw.use (p := Az.isSome = true) (fun w h => (fact1 h).has hm0 c5) (fun hA => ?_)
          obtain ⟨qd, rfl⟩ := Option.isSome_iff_exists.1 hA
          have hrda := get_rd ham
          repeat (first | refine Pw.runs ?_ | refine Pw.list (Pw.box rfl rfl rfl rfl (fun _ => ?_)) | refine Pw.list (Pw.alloc rfl rfl rfl rfl rfl (fun _ => ?_)))
          refine Pw.drawnH (g := d.1.gp) inferInstance mixed rfl rfl ?_
          refine Pw.takeP 0 (nb 17 1) rfl rfl rfl rfl (by kernel_rfl) np so ?_
          refine Pw.takeP 1 (nb 17 3) rfl rfl rfl rfl (by kernel_rfl) np so ?_
          refine Pw.takeP 2 (nb 17 7) rfl rfl rfl rfl (by kernel_rfl) np so ?_
          refine Pw.takeFS 3 (nb 17 15) rfl rfl rfl rfl rfl rfl rfl rfl (by kernel_rfl) np so ?_
          refine Pw.takeLO 4 (nb 17 31) rfl rfl inferInstance hc0 rfl rfl rfl (by kernel_rfl) np so ?_
          refine Pw.re (d := 105) (v' := .slice (some qd) q.length zc) rfl rfl ?_
          refine Pw.takeP 5 (nb 17 63) rfl rfl rfl rfl (by kernel_rfl) np so ?_
          refine Pw.takeIx 6 (nb 17 127) rfl rfl rfl rfl rfl (by first | assumption | omega) (by first | assumption | omega) rfl rfl (by kernel_rfl) np so ?_
          refine Pw.takeFS 7 (nb 17 255) rfl rfl rfl rfl rfl rfl rfl rfl (by kernel_rfl) np so ?_
          refine Pw.takeLF pt 8 (nb 17 511) rfl rfl inferInstance rfl (by rw [Int.toNat_natCast]; exact hpt) rfl rfl rfl rfl (by kernel_rfl) np so ?_
          refine Pw.takeP 9 (nb 17 1023) rfl rfl rfl rfl (by kernel_rfl) np so ?_
          refine Pw.takeP 10 (nb 17 2047) rfl rfl rfl rfl (by kernel_rfl) np so ?_
          refine Pw.takeIx 11 (nb 17 4095) rfl rfl rfl rfl rfl (by first | assumption | omega) (by first | assumption | omega) rfl rfl (by kernel_rfl) np so ?_
          refine Pw.takeLd 12 (nb 17 8191) rfl rfl rfl (fun w hS => (hv w hS : U1 (amtE b com q).1 (some zad, zA2) w).cell hm0 c6) rfl rfl (by kernel_rfl) np so ?_
          rw [hrda]
          refine Pw.takeBuild 13 (nb 17 16383) rfl rfl rfl rfl rfl (by kernel_rfl) np so ?_
          refine Pw.one 14 (nb 17 32767) rfl (by kernel_rfl) ?_
          refine Pw.lit12 rfl rfl rfl rfl rfl rfl rfl rfl rfl (fun g2 => freeHead ?_)
          refine Pw.held so ?_
          refine Pw.one 15 (nb 17 65535) rfl (by kernel_rfl) ?_
          refine Pw.push (s := qg) (m := m + 1) (news := encP (pt.1, am)) rfl rfl rfl rfl rfl rfl rfl hqg rfl (fun u hu => by
            simp only [encP, List.mem_cons, List.not_mem_nil, or_false] at hu
            rcases hu with rfl | rfl <;> rfl) (fun w hs j u hu => by
            have h1 : w.heap[g2]? = some (row (encP (pt.1, am)) 93) := by first | exact fact0 hs.all | exact fact1 hs.all
            rw [add_none, cell_of_blk h1]
            simpa using hu) (by omega) (by simp only [maxLen]; omega) (by show (m + 1 + 1) * 16 ≤ _; omega) rfl rfl (fun q' hq' => ?_)
          have e4 : cellsP ((payL v b com q).take (m + 1)) ++ encP (pt.1, am) = cellsP ((payL v b com q).take (m + 1 + 1)) := by rw [htk, cellsP_app]; unfold cellsP; simp
          rw [e4] at hq' ⊢
          refine Pw.held so ?_
          refine Pw.takeP 16 (nb 17 131071) rfl rfl rfl rfl (by kernel_rfl) np so ?_
          refine Pw.done (by kernel_rfl) ?_
          skip
          repeat (first | refine Pw.runs ?_ | refine Pw.list (Pw.box rfl rfl rfl rfl (fun _ => ?_)) | refine Pw.list (Pw.alloc rfl rfl rfl rfl rfl (fun _ => ?_)))
          refine Pw.re (d := 98) (v' := .int .i64 ((m + 1 : Nat) : Int)) rfl (congrArg (Value.int .i64) (i64s (n := 1000000) (by omega) (by omega))) ?_
          exact Pw.again (m + 1, q') ⟨by show m + 1 ≤ q.length; omega, hq'⟩ (by show q.length - (m + 1) < q.length - m; omega) ⟨rfl, rfl, rfl, rfl, rfl, rfl, trivial⟩ rfl (fun w h => allCons (hv w h) (allCons (hv w h) allNil))
        · obtain rfl : m = q.length := by omega
          rw [← hpyl, List.take_length] at hqg ⊢
          refine Pw.freeG hqg (fun A' c' e hc => ?_)
          rw [e]
          repeat (first | refine Pw.runs ?_ | refine Pw.list (Pw.box rfl rfl rfl rfl (fun _ => ?_)) | refine Pw.list (Pw.alloc rfl rfl rfl rfl rfl (fun _ => ?_)))
          refine Pw.eqL (L' := dB (setP d P) :: dL (ds.eraseIdx j)) (by rw [hR]; show _ = (⟨d.1.gp, row (cellsD (setP d P)) 46⟩ :: R); rw [hcse]) ?_
          refine Pw.perm (permDs hd) ?_
          exact Pw.retB (x := (A', c')) (List.Sublist.refl _) (.tmp rfl (.tmp rfl (.tmp rfl .nil))) rfl trivial (fun w h => rows_of_cells (fun _ _ => rfl) (fun _ _ => trivial) hc (by rw [hpyl]; simp only [maxLen]; omega) (by omega) (fact0 h))
      · have eA : amtE b com q = (List.replicate q.length 0, b - comE b com) := by
          unfold amtE spF; rw [if_neg hS, List.map_const', stk_len]
        have hne : ¬ ((if lsum (stk q) ≤ 18446744073709551615 then 5 else 3 : Int) = 0) := by split <;> omega
        have hlr : (List.replicate q.length (0 : Int)).length = q.length := List.length_replicate
        refine Pw.list (Pw.call (tSplitErr_ct (b - comE b com) (stk q) (As, cs') hqp.2 hS) rfl rfl rfl (by kernel_rfl) rfl rfl (fun w h => ints_of_cells (by rw [stk_len]; exact hcs') (by rw [stk_len]; have := hqp.1; simp only [maxLen]; omega) (fact0 h)) ?_)
        intro _ _
        refine Pw.re (d := 14) (v' := .slice As q.length cs') rfl (by show Value.slice As (stk q).length cs' = _; rw [stk_len]) ?_
        repeat (first | refine Pw.runs ?_ | refine Pw.list (Pw.box rfl rfl rfl rfl (fun _ => ?_)) | refine Pw.list (Pw.alloc rfl rfl rfl rfl rfl (fun _ => ?_)))
        refine Pw.joinF (σ := Nat) (fun _ => True) (fun g => ⟨[(10, .pointer (some ⟨d.1.gp, 0 + P * 3, none⟩)), (13, .slice (some ⟨g1, 0, none⟩) 1 1), (16, sl (amtE b com q).1 (some ⟨g, 0, none⟩, q.length)), (17, .int .u64 (amtE b com q).2)], ⟨g1, row [.int .i64 v, .int .u64 (comE b com)] 93⟩ :: ⟨d.1.gp, row cs 46⟩ :: R, [U1 (amtE b com q).1 (some ⟨g, 0, none⟩, q.length), PS q zq]⟩) ?_ ?_
        · refine Pw.condD rfl (fun c1 => ?_) (fun c1 => absurd c1 (by simpa using hne))
          repeat (first | refine Pw.runs ?_ | refine Pw.list (Pw.box rfl rfl rfl rfl (fun _ => ?_)) | refine Pw.list (Pw.alloc rfl rfl rfl rfl rfl (fun _ => ?_)))
          refine Pw.drawnH (g := d.1.gp) inferInstance mixed rfl rfl ?_
          refine Pw.takeP 0 (nb 11 1) rfl rfl rfl rfl (by kernel_rfl) np so ?_
          refine Pw.takeP 1 (nb 11 3) rfl rfl rfl rfl (by kernel_rfl) np so ?_
          refine Pw.takeP 3 (nb 11 11) rfl rfl rfl rfl (by kernel_rfl) np so ?_
          refine Pw.takeP 4 (nb 11 27) rfl rfl rfl rfl (by kernel_rfl) np so ?_
          refine Pw.takeFS 5 (nb 11 59) rfl rfl rfl rfl rfl rfl rfl rfl (by kernel_rfl) np so ?_
          refine Pw.takeLO 6 (nb 11 123) rfl rfl inferInstance hc1 rfl rfl rfl (by kernel_rfl) np so ?_
          refine Pw.takeP 7 (nb 11 251) rfl rfl rfl rfl (by kernel_rfl) np so ?_
          refine Pw.takeP 8 (nb 11 507) rfl rfl rfl rfl (by kernel_rfl) np so ?_
          refine Pw.one 2 (nb 11 511) rfl (by kernel_rfl) ?_
          refine Pw.make (m := q.length) rfl rfl rfl rfl rfl rfl (by show 8 * q.length ≤ _; omega) (by simp only [maxLen]; omega) rfl rfl (fun g => freeHead ?_)
          refine Pw.held so ?_
          refine Pw.takeP 9 (nb 11 1023) rfl rfl rfl rfl (by kernel_rfl) np so ?_
          refine Pw.takeP 10 (nb 11 2047) rfl rfl rfl rfl (by kernel_rfl) np so ?_
          refine Pw.done (by kernel_rfl) ?_
          skip
          repeat (first | refine Pw.runs ?_ | refine Pw.list (Pw.box rfl rfl rfl rfl (fun _ => ?_)) | refine Pw.list (Pw.alloc rfl rfl rfl rfl rfl (fun _ => ?_)))
          refine Pw.re (d := 17) (v' := .int .u64 (amtE b com q).2) rfl (congrArg (Value.int .u64) (by rw [eA]; exact wu (by omega) (by omega))) ?_
          refine Pw.re (d := 16) (v' := sl (amtE b com q).1 (some ⟨g, 0, none⟩, q.length)) rfl (by rw [eA]; show Value.slice _ q.length _ = .slice _ (List.replicate q.length (0 : Int)).length _; rw [hlr]) ?_
          exact Pw.arrive g trivial ⟨rfl, rfl, rfl, rfl, trivial⟩ rfl (fun w h => allCons (by rw [eA]; exact ints_of_row' (l := List.replicate q.length 0) (by have := fact0 h; simpa using this) (by rw [hlr]; exact Nat.le_refl _) (by rw [hlr]; simp only [maxLen]; omega)) (allCons (hv w h) allNil))
        intro g _
        dsimp only
        obtain ⟨zA, hzA⟩ : ∃ zA : Option Addr × Nat, (some ⟨g, 0, none⟩, q.length) = zA := ⟨_, rfl⟩
        rw [hzA]
        have hal : (amtE b com q).1.length = q.length := by unfold amtE; rw [spF_len, stk_len]
        have hpyl : (payL v b com q).length = q.length + 1 := by unfold payL; rw [List.length_cons, List.length_zip, List.length_map, hal]; omega
        have hpt0 : (payL v b com q).take 1 = [(v, comE b com)] := by unfold payL; rfl
        repeat (first | refine Pw.runs ?_ | refine Pw.list (Pw.box rfl rfl rfl rfl (fun _ => ?_)) | refine Pw.list (Pw.alloc rfl rfl rfl rfl rfl (fun _ => ?_)))
        refine Pw.eqL (L' := gL (some (g1, 1, [])) (cellsP [(v, comE b com)]) 93 ++ (⟨d.1.gp, row cs 46⟩ :: R)) rfl ?_
        refine Pw.loopJ (σ := Nat × Gr) (fun t => t.1 ≤ q.length ∧ gOk t.2 (cellsP ((payL v b com q).take (t.1 + 1))) (t.1 + 1) 2) (fun t => ⟨[(10, .pointer (some ⟨d.1.gp, 0 + P * 3, none⟩)), (13, gv t.2 (t.1 + 1)), (16, sl (amtE b com q).1 zA), (17, .int .u64 (amtE b com q).2), (97, .int .i64 q.length), (98, .int .i64 t.1)], gL t.2 (cellsP ((payL v b com q).take (t.1 + 1))) 93 ++ (⟨d.1.gp, row cs 46⟩ :: R), [U1 (amtE b com q).1 zA, PS q zq]⟩) (fun t => q.length - t.1) (0, some (g1, 1, [])) ⟨Nat.zero_le _, by dsimp only; rw [hpt0]; exact ⟨rfl, Nat.le_refl _, rfl⟩⟩ (by
          intro X h
          dsimp only at h
          rw [hpt0] at h
          refine Pw.enter ?_ ?_ X h
          · exact ⟨rfl, rfl, rfl, rfl, by show some _ = some (Value.int .i64 ((q.length : Nat) : Int)); rw [hal], rfl, trivial⟩
          · exact fun w h => h) ?_
        rintro ⟨m, qg⟩ ⟨hm2, hqg⟩
        dsimp only at hm2 hqg ⊢
        repeat (first | refine Pw.runs ?_ | refine Pw.list (Pw.box rfl rfl rfl rfl (fun _ => ?_)) | refine Pw.list (Pw.alloc rfl rfl rfl rfl rfl (fun _ => ?_)))
        refine Pw.condD rfl (fun c5 => ?_) (fun c5 => ?_)
        · have hm0 : (0 : Int) ≤ (m : Int) := Int.natCast_nonneg m
          obtain ⟨pt, hpt, _⟩ := get_at (show m < q.length by omega)
          obtain ⟨am, ham, _⟩ := get_at (show m < (amtE b com q).1.length by omega)
          have c6 : (m : Int) < (((amtE b com q).1.length : Nat) : Int) := by omega
          have htk : (payL v b com q).take (m + 1 + 1) = (payL v b com q).take (m + 1) ++ [(pt.1, am)] := by
            unfold payL
            rw [List.take_succ_cons, List.take_succ_cons, zip_snoc hpt ham]; rfl
          obtain ⟨zA1, zA2⟩ := zA
          refine Pw.use (p := zA1.isSome = true) (fun w h => (fact0 h).has hm0 c6) (fun hA => ?_)
          obtain ⟨zad, rfl⟩ := Option.isSome_iff_exists.1 hA
          obtain ⟨Az, zc⟩ := zq
          refine Pw.use (p := Az.isSome = true) (fun w h => (fact1 h).has hm0 c5) (fun hA => ?_)
          obtain ⟨qd, rfl⟩ := Option.isSome_iff_exists.1 hA
          have hrda := get_rd ham
          repeat (first | refine Pw.runs ?_ | refine Pw.list (Pw.box rfl rfl rfl rfl (fun _ => ?_)) | refine Pw.list (Pw.alloc rfl rfl rfl rfl rfl (fun _ => ?_)))
          refine Pw.drawnH (g := d.1.gp) inferInstance mixed rfl rfl ?_
          refine Pw.takeP 0 (nb 17 1) rfl rfl rfl rfl (by kernel_rfl) np so ?_
          refine Pw.takeP 1 (nb 17 3) rfl rfl rfl rfl (by kernel_rfl) np so ?_
          refine Pw.takeP 2 (nb 17 7) rfl rfl rfl rfl (by kernel_rfl) np so ?_
          refine Pw.takeFS 3 (nb 17 15) rfl rfl rfl rfl rfl rfl rfl rfl (by kernel_rfl) np so ?_
          refine Pw.takeLO 4 (nb 17 31) rfl rfl inferInstance hc0 rfl rfl rfl (by kernel_rfl) np so ?_
          refine Pw.re (d := 105) (v' := .slice (some qd) q.length zc) rfl rfl ?_
          refine Pw.takeP 5 (nb 17 63) rfl rfl rfl rfl (by kernel_rfl) np so ?_
          refine Pw.takeIx 6 (nb 17 127) rfl rfl rfl rfl rfl (by first | assumption | omega) (by first | assumption | omega) rfl rfl (by kernel_rfl) np so ?_
          refine Pw.takeFS 7 (nb 17 255) rfl rfl rfl rfl rfl rfl rfl rfl (by kernel_rfl) np so ?_
          refine Pw.takeLF pt 8 (nb 17 511) rfl rfl inferInstance rfl (by rw [Int.toNat_natCast]; exact hpt) rfl rfl rfl rfl (by kernel_rfl) np so ?_
          refine Pw.takeP 9 (nb 17 1023) rfl rfl rfl rfl (by kernel_rfl) np so ?_
          refine Pw.takeP 10 (nb 17 2047) rfl rfl rfl rfl (by kernel_rfl) np so ?_
          refine Pw.takeIx 11 (nb 17 4095) rfl rfl rfl rfl rfl (by first | assumption | omega) (by first | assumption | omega) rfl rfl (by kernel_rfl) np so ?_
          refine Pw.takeLd 12 (nb 17 8191) rfl rfl rfl (fun w hS => (hv w hS : U1 (amtE b com q).1 (some zad, zA2) w).cell hm0 c6) rfl rfl (by kernel_rfl) np so ?_
          rw [hrda]
          refine Pw.takeBuild 13 (nb 17 16383) rfl rfl rfl rfl rfl (by kernel_rfl) np so ?_
          refine Pw.one 14 (nb 17 32767) rfl (by kernel_rfl) ?_
          refine Pw.lit12 rfl rfl rfl rfl rfl rfl rfl rfl rfl (fun g2 => freeHead ?_)
          refine Pw.held so ?_
          refine Pw.one 15 (nb 17 65535) rfl (by kernel_rfl) ?_
          refine Pw.push (s := qg) (m := m + 1) (news := encP (pt.1, am)) rfl rfl rfl rfl rfl rfl rfl hqg rfl (fun u hu => by
            simp only [encP, List.mem_cons, List.not_mem_nil, or_false] at hu
            rcases hu with rfl | rfl <;> rfl) (fun w hs j u hu => by
            have h1 : w.heap[g2]? = some (row (encP (pt.1, am)) 93) := by first | exact fact0 hs.all | exact fact1 hs.all
            rw [add_none, cell_of_blk h1]
            simpa using hu) (by omega) (by simp only [maxLen]; omega) (by show (m + 1 + 1) * 16 ≤ _; omega) rfl rfl (fun q' hq' => ?_)
          have e4 : cellsP ((payL v b com q).take (m + 1)) ++ encP (pt.1, am) = cellsP ((payL v b com q).take (m + 1 + 1)) := by rw [htk, cellsP_app]; unfold cellsP; simp
          rw [e4] at hq' ⊢
          refine Pw.held so ?_
          refine Pw.takeP 16 (nb 17 131071) rfl rfl rfl rfl (by kernel_rfl) np so ?_
          refine Pw.done (by kernel_rfl) ?_
          skip
          repeat (first | refine Pw.runs ?_ | refine Pw.list (Pw.box rfl rfl rfl rfl (fun _ => ?_)) | refine Pw.list (Pw.alloc rfl rfl rfl rfl rfl (fun _ => ?_)))
          refine Pw.re (d := 98) (v' := .int .i64 ((m + 1 : Nat) : Int)) rfl (congrArg (Value.int .i64) (i64s (n := 1000000) (by omega) (by omega))) ?_
          exact Pw.again (m + 1, q') ⟨by show m + 1 ≤ q.length; omega, hq'⟩ (by show q.length - (m + 1) < q.length - m; omega) ⟨rfl, rfl, rfl, rfl, rfl, rfl, trivial⟩ rfl (fun w h => allCons (hv w h) (allCons (hv w h) allNil))
        · obtain rfl : m = q.length := by omega
          rw [← hpyl, List.take_length] at hqg ⊢
          refine Pw.freeG hqg (fun A' c' e hc => ?_)
          rw [e]
          repeat (first | refine Pw.runs ?_ | refine Pw.list (Pw.box rfl rfl rfl rfl (fun _ => ?_)) | refine Pw.list (Pw.alloc rfl rfl rfl rfl rfl (fun _ => ?_)))
          refine Pw.eqL (L' := dB (setP d P) :: dL (ds.eraseIdx j)) (by rw [hR]; show _ = (⟨d.1.gp, row (cellsD (setP d P)) 46⟩ :: R); rw [hcse]) ?_
          refine Pw.perm (permDs hd) ?_
          exact Pw.retB (x := (A', c')) (List.Sublist.refl _) (.tmp rfl (.tmp rfl (.tmp rfl .nil))) rfl trivial (fun w h => rows_of_cells (fun _ _ => rfl) (fun _ _ => trivial) hc (by rw [hpyl]; simp only [maxLen]; omega) (by omega) (fact0 h))
    · rw [if_pos rfl, if_pos rfl]
      repeat (first | refine Pw.runs ?_ | refine Pw.list (Pw.box rfl rfl rfl rfl (fun _ => ?_)) | refine Pw.list (Pw.alloc rfl rfl rfl rfl rfl (fun _ => ?_)))
      exact Pw.retB (x := (none, 0)) (List.Sublist.refl _) (.tmp rfl (.tmp rfl (.tmp rfl .nil))) rfl trivial (fun w h => Rows.nil _ _ _ _ _)
end Go.Proofs.Wk
/- Exposures: plain facts of pages, for PagesWhole. -/
namespace Go.Proofs.Wk
open Go.Sort Go.RowKit
set_option linter.unusedVariables false
set_option linter.unusedSimpArgs false
end Go.Proofs.Wk
/- Exposures: the document's part. -/
namespace Go.Proofs.Wk
open Go.RowKit
set_option maxRecDepth 100000
set_option maxHeartbeats 1000000
attribute [local irreducible] Pw OpG
set_option linter.unusedVariables false
set_option linter.unusedSimpArgs false
end Go.Proofs.Wk
/- Exposures: the document's total, the parts found and compared. -/
namespace Go.Proofs.Wk
open Go.RowKit
set_option maxRecDepth 100000
set_option maxHeartbeats 1000000
attribute [local irreducible] Pw OpG
set_option linter.unusedVariables false
set_option linter.unusedSimpArgs false
theorem rtotal_ct (l : List Pt) (x : Option Addr × Nat) (hl : l.length ≤ 1000000) (hb : ∀ n ∈ stk l, U64 n) :
    Ct Tryz.prog 31 #[psV l x] (PS l x) (fun _ : Unit => .tuple #[.int .u64 (sumM (stk l)).1, .int .i64 (sumM (stk l)).2]) Tt (fun _ _ => True) := by
  have htop : l.length ≤ 9223372036854775807 := by omega
  obtain ⟨A, c⟩ := x
  refine Ct.start Tryz.func31 rfl rfl (slots_of rfl slots1) (fun D w0 => ?_)
  try refine Pw.run ?_
  refine Pw.loopJ (σ := Nat × Gr) (fun t => t.1 ≤ l.length ∧ gOk t.2 ((stk (l.take t.1)).map (Value.int .u64)) t.1 1) (fun t => ⟨[(0, .slice A l.length c), (4, gv t.2 t.1), (7, .int .i64 l.length), (8, .int .i64 t.1)], gL1 t.2 ((stk (l.take t.1)).map (Value.int .u64)) 22, [PS l (A, c)]⟩) (fun t => l.length - t.1) (0, none) ⟨Nat.zero_le _, rfl, rfl⟩ (Pw.enter ⟨rfl, rfl, rfl, rfl, trivial⟩ (fun _ h => h)) ?_
  rintro ⟨i, q⟩ ⟨hi, hq⟩
  dsimp only at hi hq ⊢
  try refine Pw.run ?_
  refine Pw.condD rfl (fun c3 => ?_) (fun c3 => ?_)
  · obtain ⟨p, hp, hm⟩ := get_at (show i < l.length by omega)
    try refine Pw.run ?_
    refine Pw.list (Pw.index rfl rfl rfl rfl (Int.natCast_nonneg i) c3 (fun w h => (fact0 h).has (Int.natCast_nonneg i) c3) rfl rfl ?_)
    rintro ad rfl
    refine Pw.list (Pw.fieldS rfl rfl rfl rfl rfl rfl rfl ?_)
    refine Pw.list (Pw.loadF p rfl inferInstance rfl (by rw [Int.toNat_natCast]; exact hp) rfl rfl rfl rfl ?_)
    try refine Pw.run ?_
    refine Pw.list (Pw.lit1 rfl rfl rfl rfl rfl rfl rfl rfl rfl (fun g1 => freeHead ?_))
    refine Pw.list (Pw.push (s := q) (news := [.int .u64 p.2]) (L0 := []) rfl rfl rfl rfl rfl rfl rfl hq rfl (fun u hu => by rw [List.mem_singleton.1 hu]; rfl) (fun w hs j u hu => by
      have h1 := fact0 hs.all
      rw [add_none, cell_of_blk h1]
      simpa using hu) (by omega) (by simp only [maxLen]; omega) (by show (i + 1) * 8 ≤ _; omega) rfl rfl (fun q' hq' => ?_))
    repeat (first | refine Pw.runs ?_ | refine Pw.list (Pw.box rfl rfl rfl rfl (fun _ => ?_)) | refine Pw.list (Pw.alloc rfl rfl rfl rfl rfl (fun _ => ?_)))
    refine Pw.re (d := 8) (v' := .int .i64 ((i + 1 : Nat) : Int)) rfl (congrArg (Value.int .i64) (i64s (by omega) htop)) ?_
    have e2 : (stk (l.take (i + 1))).map (Value.int .u64) = (stk (l.take i)).map (Value.int .u64) ++ [.int .u64 p.2] := by rw [stk_snoc hp]; simp
    exact Pw.again (i + 1, q') ⟨by omega, by rw [e2]; exact hq'⟩ (by show l.length - (i + 1) < l.length - i; omega) ⟨rfl, rfl, rfl, rfl, trivial⟩ (by rw [e2]) (fun w h => allCons (hv w h) allNil)
  · try refine Pw.run ?_
    obtain rfl : i = l.length := by omega
    rw [List.take_length] at hq ⊢
    refine Pw.eqL (L' := gL q ((stk l).map (Value.int .u64)) 22 ++ []) (by simp) ?_
    refine Pw.freeG hq (fun A c e hc => ?_)
    refine Pw.re (d := 20) (v' := sl (stk l) (A, c)) rfl (by rw [e]; show Value.slice A _ c = Value.slice A (stk l).length c; rw [stk_len]) ?_
    refine Pw.list (Pw.call (rSum_ct (stk l) (A, c) hb) rfl rfl rfl (by kernel_rfl) rfl rfl (fun w h => ints_of_cells (by rw [stk_len]; exact hc) (by rw [stk_len]; simp only [maxLen]; omega) (fact0 h)) ?_)
    intro _ _
    repeat (first | refine Pw.runs ?_ | refine Pw.list (Pw.box rfl rfl rfl rfl (fun _ => ?_)) | refine Pw.list (Pw.alloc rfl rfl rfl rfl rfl (fun _ => ?_)))
    exact Pw.ret_ (x := ()) (.tmp rfl (.tmp rfl .nil)) rfl trivial (fun w h => by trivial)
theorem rTotal_ct (x : Ex) (hx : ExW x) (hl : x.oth.length ≤ 100000) : Ct Tryz.prog 27 #[exV x] (exF x) (fun _ : Unit => .tuple #[.int .u64 (totX x).1, .int .i64 (totX x).2]) Tt (fun _ _ => True) := by
  have hb := totX_b hx
  refine Ct.start Tryz.func27 rfl rfl (slots_of rfl slots1) (fun D w0 => ?_)
  try refine Pw.run ?_
  refine Pw.list (Pw.box rfl rfl rfl rfl (fun g1 => freeHead ?_))
  repeat (first | refine Pw.runs ?_ | refine Pw.list (Pw.box rfl rfl rfl rfl (fun _ => ?_)) | refine Pw.list (Pw.alloc rfl rfl rfl rfl rfl (fun _ => ?_)))
  have ec : cellsP x.oth ++ [.int .i64 0, .int .u64 x.own] = cellsP (x.oth ++ [(0, x.own)]) := by rw [cellsP_snoc]; rfl
  have es : stk (x.oth ++ [(0, x.own)]) = stk x.oth ++ [x.own] := by rw [stk_append]; rfl
  have hb' : ∀ n ∈ stk (x.oth ++ [(0, x.own)]), U64 n := by rw [es]; exact hb
  refine Pw.drawnG mixed rfl rfl ?_
  refine Pw.takeP 1 (nb 14 2) rfl rfl rfl rfl (by kernel_rfl) np sf ?_
  refine Pw.takeF 2 (nb 14 6) rfl rfl inferInstance rfl rfl rfl (by kernel_rfl) np sf ?_
  refine Pw.takeP 4 (nb 14 22) rfl rfl rfl rfl (by kernel_rfl) np sf ?_
  refine Pw.takeF 5 (nb 14 54) rfl rfl inferInstance rfl rfl rfl (by kernel_rfl) np sf ?_
  refine Pw.takeBuild 6 (nb 14 118) rfl rfl rfl rfl rfl (by kernel_rfl) np sf ?_
  refine Pw.two 0 7 (nb 14 119) (nb 14 246) rfl rfl (by kernel_rfl) ?_ ?_
  · skip
    refine Pw.lit0 rfl rfl rfl rfl (fun g4 => ?_)
    refine Pw.held sf ?_
    refine Pw.two 3 7 (nb 14 127) (nb 14 247) rfl rfl (by kernel_rfl) ?_ ?_
    · skip
      refine Pw.pushG (s := some (g4, 0, [])) (m := 0) (cells := []) (news := cellsP x.oth) (L0 := []) rfl rfl rfl rfl rfl rfl rfl ⟨rfl, Nat.le_refl _, rfl⟩ (cellsP_len x.oth) cellsP_one (fun w hs j u hu => Rows.toCellsE ((hv w hs.all : exF x w) : PS x.oth x.z w) (by omega) j u hu) (by show 0 < 2; omega) (by simp only [maxLen]; omega) (by show (0 + x.oth.length) * 16 ≤ _; omega) rfl rfl (fun q hq => ?_)
      rw [Nat.zero_add, List.nil_append] at hq ⊢
      refine Pw.held sf ?_
      refine Pw.one 7 (nb 14 255) rfl (by kernel_rfl) ?_
      refine Pw.lit12 rfl rfl rfl rfl rfl rfl rfl rfl rfl (fun g7 => freeHead ?_)
      refine Pw.held sf ?_
      refine Pw.one 8 (nb 14 511) rfl (by kernel_rfl) ?_
      skip
      refine Pw.push (s := q) (m := x.oth.length) (cells := cellsP x.oth) (news := [.int .i64 0, .int .u64 x.own]) (L0 := []) rfl rfl rfl rfl rfl rfl (by simp) hq rfl (fun u hu => by rcases List.mem_cons.1 hu with rfl | hu; rfl; rw [List.mem_singleton.1 hu]; rfl) (fun w hs j u hu => by
        have h1 : w.heap[g7]? = some (row [.int .i64 0, .int .u64 x.own] 93) := by first | exact fact0 hs.all | exact fact1 hs.all
        rw [add_none, cell_of_blk h1]
        simpa using hu) (by omega) (by simp only [maxLen]; omega) (by show (x.oth.length + 1) * 16 ≤ _; omega) rfl rfl (fun q' hq' => ?_)
      rw [ec] at hq' ⊢
      refine Pw.freeG hq' (fun A c e hc => ?_)
      refine Pw.re (d := 12) (v' := psV (x.oth ++ [(0, x.own)]) (A, c)) rfl (by rw [e]; show Value.slice A _ c = Value.slice A (x.oth ++ [(0, x.own)]).length c; rw [List.length_append]; rfl) ?_
      refine Pw.held sf ?_
      refine Pw.one 9 (nb 14 1023) rfl (by kernel_rfl) ?_
      refine Pw.call (rtotal_ct (x.oth ++ [(0, x.own)]) (A, c) (by rw [List.length_append, List.length_singleton]; omega) hb') rfl rfl rfl (by kernel_rfl) rfl rfl (fun w h => rows_of_cells (fun _ _ => rfl) (fun _ _ => trivial) (by rw [List.length_append]; exact hc) (by rw [List.length_append, List.length_singleton]; simp only [maxLen]; omega) (by omega) (by first | exact fact0 h | exact fact1 h)) ?_
      intro _ _
      rw [es]
      refine Pw.held sf ?_
      refine Pw.takeP 10 (nb 14 2047) rfl rfl rfl rfl (by kernel_rfl) np sf ?_
      refine Pw.takeP 11 (nb 14 4095) rfl rfl rfl rfl (by kernel_rfl) np sf ?_
      refine Pw.takeP 12 (nb 14 8191) rfl rfl rfl rfl (by kernel_rfl) np sf ?_
      refine Pw.takeP 13 (nb 14 16383) rfl rfl rfl rfl (by kernel_rfl) np sf ?_
      refine Pw.done (by kernel_rfl) ?_
      try refine Pw.run ?_
      exact Pw.ret_ (x := ()) (.tmp rfl (.tmp rfl .nil)) rfl trivial (fun w h => by trivial)
    · skip
      refine Pw.lit12 rfl rfl rfl rfl rfl rfl rfl rfl rfl (fun g7 => freeHead ?_)
      refine Pw.held sf ?_
      refine Pw.one 3 (nb 14 255) rfl (by kernel_rfl) ?_
      refine Pw.pushG (s := some (g4, 0, [])) (m := 0) (cells := []) (news := cellsP x.oth) (L0 := []) rfl rfl rfl rfl rfl rfl rfl ⟨rfl, Nat.le_refl _, rfl⟩ (cellsP_len x.oth) cellsP_one (fun w hs j u hu => Rows.toCellsE ((hv w hs.all : exF x w) : PS x.oth x.z w) (by omega) j u hu) (by show 0 < 2; omega) (by simp only [maxLen]; omega) (by show (0 + x.oth.length) * 16 ≤ _; omega) rfl rfl (fun q hq => ?_)
      rw [Nat.zero_add, List.nil_append] at hq ⊢
      refine Pw.held sf ?_
      refine Pw.one 8 (nb 14 511) rfl (by kernel_rfl) ?_
      skip
      refine Pw.push (s := q) (m := x.oth.length) (cells := cellsP x.oth) (news := [.int .i64 0, .int .u64 x.own]) (L0 := []) rfl rfl rfl rfl rfl rfl (by simp) hq rfl (fun u hu => by rcases List.mem_cons.1 hu with rfl | hu; rfl; rw [List.mem_singleton.1 hu]; rfl) (fun w hs j u hu => by
        have h1 : w.heap[g7]? = some (row [.int .i64 0, .int .u64 x.own] 93) := by first | exact fact0 hs.all | exact fact1 hs.all
        rw [add_none, cell_of_blk h1]
        simpa using hu) (by omega) (by simp only [maxLen]; omega) (by show (x.oth.length + 1) * 16 ≤ _; omega) rfl rfl (fun q' hq' => ?_)
      rw [ec] at hq' ⊢
      refine Pw.freeG hq' (fun A c e hc => ?_)
      refine Pw.re (d := 12) (v' := psV (x.oth ++ [(0, x.own)]) (A, c)) rfl (by rw [e]; show Value.slice A _ c = Value.slice A (x.oth ++ [(0, x.own)]).length c; rw [List.length_append]; rfl) ?_
      refine Pw.held sf ?_
      refine Pw.one 9 (nb 14 1023) rfl (by kernel_rfl) ?_
      refine Pw.call (rtotal_ct (x.oth ++ [(0, x.own)]) (A, c) (by rw [List.length_append, List.length_singleton]; omega) hb') rfl rfl rfl (by kernel_rfl) rfl rfl (fun w h => rows_of_cells (fun _ _ => rfl) (fun _ _ => trivial) (by rw [List.length_append]; exact hc) (by rw [List.length_append, List.length_singleton]; simp only [maxLen]; omega) (by omega) (by first | exact fact0 h | exact fact1 h)) ?_
      intro _ _
      rw [es]
      refine Pw.held sf ?_
      refine Pw.takeP 10 (nb 14 2047) rfl rfl rfl rfl (by kernel_rfl) np sf ?_
      refine Pw.takeP 11 (nb 14 4095) rfl rfl rfl rfl (by kernel_rfl) np sf ?_
      refine Pw.takeP 12 (nb 14 8191) rfl rfl rfl rfl (by kernel_rfl) np sf ?_
      refine Pw.takeP 13 (nb 14 16383) rfl rfl rfl rfl (by kernel_rfl) np sf ?_
      refine Pw.done (by kernel_rfl) ?_
      try refine Pw.run ?_
      exact Pw.ret_ (x := ()) (.tmp rfl (.tmp rfl .nil)) rfl trivial (fun w h => by trivial)
  · skip
    refine Pw.lit12 rfl rfl rfl rfl rfl rfl rfl rfl rfl (fun g7 => freeHead ?_)
    refine Pw.held sf ?_
    refine Pw.one 0 (nb 14 247) rfl (by kernel_rfl) ?_
    refine Pw.lit0 rfl rfl rfl rfl (fun g4 => ?_)
    refine Pw.held sf ?_
    refine Pw.one 3 (nb 14 255) rfl (by kernel_rfl) ?_
    refine Pw.pushG (s := some (g4, 0, [])) (m := 0) (cells := []) (news := cellsP x.oth) (L0 := []) rfl rfl rfl rfl rfl rfl rfl ⟨rfl, Nat.le_refl _, rfl⟩ (cellsP_len x.oth) cellsP_one (fun w hs j u hu => Rows.toCellsE ((hv w hs.all : exF x w) : PS x.oth x.z w) (by omega) j u hu) (by show 0 < 2; omega) (by simp only [maxLen]; omega) (by show (0 + x.oth.length) * 16 ≤ _; omega) rfl rfl (fun q hq => ?_)
    rw [Nat.zero_add, List.nil_append] at hq ⊢
    refine Pw.held sf ?_
    refine Pw.one 8 (nb 14 511) rfl (by kernel_rfl) ?_
    skip
    refine Pw.push (s := q) (m := x.oth.length) (cells := cellsP x.oth) (news := [.int .i64 0, .int .u64 x.own]) (L0 := []) rfl rfl rfl rfl rfl rfl (by simp) hq rfl (fun u hu => by rcases List.mem_cons.1 hu with rfl | hu; rfl; rw [List.mem_singleton.1 hu]; rfl) (fun w hs j u hu => by
      have h1 : w.heap[g7]? = some (row [.int .i64 0, .int .u64 x.own] 93) := by first | exact fact0 hs.all | exact fact1 hs.all
      rw [add_none, cell_of_blk h1]
      simpa using hu) (by omega) (by simp only [maxLen]; omega) (by show (x.oth.length + 1) * 16 ≤ _; omega) rfl rfl (fun q' hq' => ?_)
    rw [ec] at hq' ⊢
    refine Pw.freeG hq' (fun A c e hc => ?_)
    refine Pw.re (d := 12) (v' := psV (x.oth ++ [(0, x.own)]) (A, c)) rfl (by rw [e]; show Value.slice A _ c = Value.slice A (x.oth ++ [(0, x.own)]).length c; rw [List.length_append]; rfl) ?_
    refine Pw.held sf ?_
    refine Pw.one 9 (nb 14 1023) rfl (by kernel_rfl) ?_
    refine Pw.call (rtotal_ct (x.oth ++ [(0, x.own)]) (A, c) (by rw [List.length_append, List.length_singleton]; omega) hb') rfl rfl rfl (by kernel_rfl) rfl rfl (fun w h => rows_of_cells (fun _ _ => rfl) (fun _ _ => trivial) (by rw [List.length_append]; exact hc) (by rw [List.length_append, List.length_singleton]; simp only [maxLen]; omega) (by omega) (by first | exact fact0 h | exact fact1 h)) ?_
    intro _ _
    rw [es]
    refine Pw.held sf ?_
    refine Pw.takeP 10 (nb 14 2047) rfl rfl rfl rfl (by kernel_rfl) np sf ?_
    refine Pw.takeP 11 (nb 14 4095) rfl rfl rfl rfl (by kernel_rfl) np sf ?_
    refine Pw.takeP 12 (nb 14 8191) rfl rfl rfl rfl (by kernel_rfl) np sf ?_
    refine Pw.takeP 13 (nb 14 16383) rfl rfl rfl rfl (by kernel_rfl) np sf ?_
    refine Pw.done (by kernel_rfl) ?_
    try refine Pw.run ?_
    exact Pw.ret_ (x := ()) (.tmp rfl (.tmp rfl .nil)) rfl trivial (fun w h => by trivial)
theorem Parts_ct (l : List Pt) (y z : Option Addr × Nat) : Ct Tryz.prog 14 #[psV l y, psV l z] (fun W => PS l y W ∧ PS l z W) (fun _ : Unit => .bool true) Tt (fun _ _ => True) := by
  obtain ⟨A, c⟩ := y
  obtain ⟨B, c2⟩ := z
  refine Ct.start Tryz.func14 rfl rfl (slots_of rfl slots2) (fun D w0 => Pw.facts (G' := [PS l (A, c), PS l (B, c2)]) (fun w h => allCons (fact0 h).1 (allCons (fact0 h).2 allNil)) ?_)
  refine Pw.use (p := l.length ≤ maxLen) (fun w h => (fact0 h).top) (fun htop => ?_)
  have htop := top63 htop
  try refine Pw.run ?_
  refine Pw.condD rfl (fun c0 => absurd rfl c0) (fun c0 => ?_)
  repeat (first | refine Pw.runs ?_ | refine Pw.list (Pw.box rfl rfl rfl rfl (fun _ => ?_)) | refine Pw.list (Pw.alloc rfl rfl rfl rfl rfl (fun _ => ?_)))
  refine Pw.loopJ (σ := Nat) (fun i => i ≤ l.length) (fun i => ⟨[(0, .slice A l.length c), (1, .slice B l.length c2), (12, .int .i64 l.length), (13, .int .i64 i)], [], [PS l (A, c), PS l (B, c2)]⟩) (fun i => l.length - i) 0 (Nat.zero_le _) (Pw.enter ⟨rfl, rfl, rfl, rfl, trivial⟩ (fun _ h => h)) ?_
  rintro i hi
  dsimp only at hi ⊢
  repeat (first | refine Pw.runs ?_ | refine Pw.list (Pw.box rfl rfl rfl rfl (fun _ => ?_)) | refine Pw.list (Pw.alloc rfl rfl rfl rfl rfl (fun _ => ?_)))
  refine Pw.condD rfl (fun c3 => ?_) (fun c3 => ?_)
  · obtain ⟨p, hp, hm⟩ := get_at (show i < l.length by omega)
    refine Pw.use (p := A.isSome = true) (fun w h => (fact0 h).has (Int.natCast_nonneg i) c3) (fun hA => ?_)
    refine Pw.use (p := B.isSome = true) (fun w h => (fact1 h).has (Int.natCast_nonneg i) c3) (fun hB => ?_)
    obtain ⟨ad, rfl⟩ := Option.isSome_iff_exists.1 hA
    obtain ⟨bd, rfl⟩ := Option.isSome_iff_exists.1 hB
    repeat (first | refine Pw.runs ?_ | refine Pw.list (Pw.box rfl rfl rfl rfl (fun _ => ?_)) | refine Pw.list (Pw.alloc rfl rfl rfl rfl rfl (fun _ => ?_)))
    refine Pw.drawnG mixed rfl rfl ?_
    refine Pw.takeP 0 (nb 9 1) rfl rfl rfl rfl (by kernel_rfl) np sf ?_
    refine Pw.takeP 1 (nb 9 3) rfl rfl rfl rfl (by kernel_rfl) np sf ?_
    refine Pw.takeIx 2 (nb 9 7) rfl rfl rfl rfl rfl (by first | assumption | omega) (by first | assumption | omega) rfl rfl (by kernel_rfl) np sf ?_
    refine Pw.takeLA p 3 (nb 9 15) rfl rfl inferInstance rfl (by first | assumption | (rw [Int.toNat_natCast]; assumption)) (by kernel_rfl) rfl rfl (by kernel_rfl) np sf ?_
    refine Pw.takeP 4 (nb 9 31) rfl rfl rfl rfl (by kernel_rfl) np sf ?_
    refine Pw.takeP 5 (nb 9 63) rfl rfl rfl rfl (by kernel_rfl) np sf ?_
    refine Pw.takeIx 6 (nb 9 127) rfl rfl rfl rfl rfl (by first | assumption | omega) (by first | assumption | omega) rfl rfl (by kernel_rfl) np sf ?_
    refine Pw.takeLA p 7 (nb 9 255) rfl rfl inferInstance rfl (by first | assumption | (rw [Int.toNat_natCast]; assumption)) (by kernel_rfl) rfl rfl (by kernel_rfl) np sf ?_
    refine Pw.takeNeq2 8 (nb 9 511) rfl rfl rfl (by kernel_rfl) rfl rfl (by kernel_rfl) np sf ?_
    refine Pw.done (by kernel_rfl) ?_
    refine Pw.re (d := 24) (v' := .bool false) rfl (by simp) ?_
    repeat (first | refine Pw.runs ?_ | refine Pw.list (Pw.box rfl rfl rfl rfl (fun _ => ?_)) | refine Pw.list (Pw.alloc rfl rfl rfl rfl rfl (fun _ => ?_)))
    refine Pw.re (d := 13) (v' := .int .i64 ((i + 1 : Nat) : Int)) rfl (congrArg (Value.int .i64) (i64s (by omega) htop)) ?_
    exact Pw.again (i + 1) (by omega) (by show l.length - (i + 1) < l.length - i; omega) ⟨rfl, rfl, rfl, rfl, trivial⟩ rfl (fun w h => h)
  · repeat (first | refine Pw.runs ?_ | refine Pw.list (Pw.box rfl rfl rfl rfl (fun _ => ?_)) | refine Pw.list (Pw.alloc rfl rfl rfl rfl rfl (fun _ => ?_)))
    exact Pw.ret_ (x := ()) (.tmp rfl .nil) rfl trivial (fun w h => by trivial)
end Go.Proofs.Wk
/- Exposures: a part found; the document's order. -/
namespace Go.Proofs.Wk
open Go.RowKit Go.Sort
set_option maxRecDepth 100000
set_option maxHeartbeats 1000000
attribute [local irreducible] Pw OpG
set_option linter.unusedVariables false
set_option linter.unusedSimpArgs false
theorem ahead_ct (a b : Pt) : Ct Tryz.prog 48 #[ptV a, ptV b] (fun _ => True) (fun _ : Unit => .bool (aheadP a b)) Tt (fun _ _ => True) := by
  refine Ct.start Tryz.func48 rfl rfl (slots_of rfl slots2) (fun D w0 => ?_)
  try refine Pw.run ?_
  refine Pw.list (Pw.box rfl rfl rfl rfl (fun g1 => freeHead ?_))
  refine Pw.list (Pw.box rfl rfl rfl rfl (fun g2 => freeHead ?_))
  repeat (first | refine Pw.runs ?_ | refine Pw.list (Pw.box rfl rfl rfl rfl (fun _ => ?_)) | refine Pw.list (Pw.alloc rfl rfl rfl rfl rfl (fun _ => ?_)))
  refine Pw.split 10 rfl (fun c1 => ?_) (fun c1 => ?_)
  · repeat (first | refine Pw.runs ?_ | refine Pw.list (Pw.box rfl rfl rfl rfl (fun _ => ?_)) | refine Pw.list (Pw.alloc rfl rfl rfl rfl rfl (fun _ => ?_)))
    exact Pw.ret_ (x := ()) (.tmp rfl .nil) (congrArg Value.bool (aheadP_iff.2 (.inl c1)).symm) trivial (fun w h => by trivial)
  repeat (first | refine Pw.runs ?_ | refine Pw.list (Pw.box rfl rfl rfl rfl (fun _ => ?_)) | refine Pw.list (Pw.alloc rfl rfl rfl rfl rfl (fun _ => ?_)))
  refine Pw.split 16 rfl (fun c2 => ?_) (fun c2 => ?_)
  · repeat (first | refine Pw.runs ?_ | refine Pw.list (Pw.box rfl rfl rfl rfl (fun _ => ?_)) | refine Pw.list (Pw.alloc rfl rfl rfl rfl rfl (fun _ => ?_)))
    exact Pw.ret_ (x := ()) (.tmp rfl .nil) (congrArg Value.bool (by
      rw [Bool.eq_iff_iff, decide_eq_true_iff, aheadP_iff]; omega)) trivial (fun w h => by trivial)
  · repeat (first | refine Pw.runs ?_ | refine Pw.list (Pw.box rfl rfl rfl rfl (fun _ => ?_)) | refine Pw.list (Pw.alloc rfl rfl rfl rfl rfl (fun _ => ?_)))
    exact Pw.ret_ (x := ()) (.tmp rfl .nil) (congrArg Value.bool (by
      rw [Bool.eq_iff_iff, aheadP_iff]; simp; omega)) trivial (fun w h => by trivial)
/-! ### Inserted one by one, «as» sorted -/
def Fall (l : List Pt) : Prop := l.Pairwise (fun a b => aheadP b a = false)
theorem srt_fall (l : List Pt) : Fall (srt l) := by
  have h := List.pairwise_mergeSort (le := fun x y => !(ltOf cfP) y x) (fun a b c h1 h2 => by
    rw [Bool.not_eq_true', ltP, ← Bool.not_eq_true, aheadP_iff] at *; omega) (fun a b => by
    rw [Bool.or_eq_true, Bool.not_eq_true', Bool.not_eq_true', ltP, ltP, ← Bool.not_eq_true, ← Bool.not_eq_true, aheadP_iff, aheadP_iff]; omega) l
  exact h.imp (fun {a b} hab => by rw [Bool.not_eq_true', ltP] at hab; exact hab)
theorem fall_srt {l m : List Pt} (h : Fall m) (hp : m.Perm l) : m = srt l :=
  List.Perm.eq_of_pairwise (le := fun a b => aheadP b a = false) (fun a b _ _ h1 h2 => totP a b (by rw [ltP]; exact h2) (by rw [ltP]; exact h1)) h (srt_fall l) (hp.trans (srt_perm l).symm)
theorem ahead_tr {a b c : Pt} (h1 : aheadP b a = false) (h2 : aheadP c b = false) : aheadP c a = false := by
  rw [← Bool.not_eq_true, aheadP_iff] at *; omega
theorem ahead_as {a b : Pt} (h : aheadP a b = true) : aheadP b a = false := by
  rw [aheadP_iff] at h; rw [← Bool.not_eq_true, aheadP_iff]; omega
theorem ins_fall {l : List Pt} {p : Pt} {k : Nat} (h : Fall l) (h1 : ∀ j, j < k → ∀ y, l[j]? = some y → aheadP y p = true) (h2 : ∀ y, l[k]? = some y → aheadP y p = false) : Fall (l.take k ++ [p] ++ l.drop k) := by
  unfold Fall at h ⊢
  rw [← List.take_append_drop k l, List.pairwise_append] at h
  obtain ⟨ha, hb, hab⟩ := h
  have hd : ∀ y ∈ l.drop k, aheadP y p = false := by
    intro y hy
    rcases hdk : l.drop k with _ | ⟨z, r⟩
    · rw [hdk] at hy; cases hy
    · have hz : l[k]? = some z := by
        have := congrArg (fun t => t[0]?) hdk
        simpa using this
      rw [hdk] at hb hy
      rcases List.mem_cons.1 hy with rfl | hy
      · exact h2 _ hz
      · exact ahead_tr (h2 z hz) ((List.pairwise_cons.1 hb).1 y hy)
  have ht : ∀ y ∈ l.take k, aheadP p y = false := by
    intro y hy
    obtain ⟨j, hj⟩ := List.getElem?_of_mem hy
    have hjl := (List.getElem?_eq_some_iff.1 hj).1
    rw [List.length_take] at hjl
    rw [List.getElem?_take_of_lt (by omega)] at hj
    exact ahead_as (h1 j (by omega) y hj)
  rw [List.append_assoc, List.pairwise_append]
  refine ⟨ha, ?_, ?_⟩
  · rw [List.singleton_append, List.pairwise_cons]; exact ⟨hd, hb⟩
  · intro a ha' b hb'
    rw [List.singleton_append] at hb'
    rcases List.mem_cons.1 hb' with rfl | hb'
    · exact ht a ha'
    · exact hab a ha' b hb'
theorem ins_perm {l : List Pt} {p : Pt} {k : Nat} : (l.take k ++ [p] ++ l.drop k).Perm (l ++ [p]) := by
  have h1 : (l.take k ++ [p] ++ l.drop k).Perm (l.take k ++ (l.drop k ++ [p])) := by
    rw [List.append_assoc]; exact (List.Perm.append_left _ List.perm_append_comm)
  rw [← List.append_assoc, List.take_append_drop] at h1
  exact h1
end Go.Proofs.Wk
/- Exposures: plain facts of the document's pages. -/
namespace Go.Proofs.Wk
open Go.Sort Go.RowKit
set_option linter.unusedVariables false
set_option linter.unusedSimpArgs false
def curP (h : Pt) (l : List Pt) (k i D : Nat) : List Pt := (if D = 0 then [h] else []) ++ (l.drop (D * k)).take (i - D * k)
def pgAt (h : Pt) (l : List Pt) (k j : Nat) : List Pt := if j = 0 then h :: l.take k else chunkAt k l j
theorem cur_snoc {h : Pt} {l : List Pt} {k i D : Nat} {p : Pt} (hi : l[i]? = some p) (hD : D * k ≤ i) : curP h l k (i + 1) D = curP h l k i D ++ [p] := by
  unfold curP
  rw [List.append_assoc, show i + 1 - D * k = (i - D * k) + 1 by omega, take_snoc (x := p)]
  rw [List.getElem?_drop, show D * k + (i - D * k) = i by omega]; exact hi
theorem cur_full {h : Pt} {l : List Pt} {k i D : Nat} (hi : i - D * k = k) : curP h l k i D = pgAt h l k D := by
  unfold curP pgAt chunkAt
  rw [hi]
  split
  · rename_i e; subst e; simp
  · simp
theorem cur_last {h : Pt} {l : List Pt} {k D : Nat} (hi : l.length - D * k ≤ k) : curP h l k l.length D = pgAt h l k D := by
  unfold curP pgAt chunkAt
  rw [List.take_of_length_le (l := l.drop (D * k)) (by rw [List.length_drop]; omega)]
  split
  · rename_i e; subst e; simp; rw [List.take_of_length_le (by omega)]
  · rw [List.take_of_length_le (by rw [List.length_drop]; omega)]; simp
theorem cur_zero {h : Pt} {l : List Pt} {k i D : Nat} (hi : i = (D + 1) * k) : curP h l k i (D + 1) = [] := by
  unfold curP; rw [if_neg (by omega), ← hi, Nat.sub_self]; simp
theorem cur_len {h : Pt} {l : List Pt} {k i D : Nat} : (curP h l k i D).length ≤ 1 + l.length := by
  unfold curP
  rw [List.length_append, List.length_take, List.length_drop]
  split <;> simp <;> omega
theorem pages_pgAt (x : Ex) (k : Nat) : pagesS x k = (List.range (1 + nCh k (x.oth.length - k))).map (pgAt (x.id, x.own) (srt x.oth) k) := by
  unfold pagesS chunks
  rw [List.length_drop, srt_len, Nat.add_comm 1, List.range_succ_eq_map, List.map_cons, List.map_map]
  refine congr (congrArg List.cons (by unfold pgAt; rw [if_pos rfl])) (List.map_congr_left fun j _ => ?_)
  show chunkAt k ((srt x.oth).drop k) j = pgAt (x.id, x.own) (srt x.oth) k (j + 1)
  unfold pgAt chunkAt
  rw [if_neg (by omega), List.drop_drop, Nat.add_mul, Nat.one_mul, Nat.add_comm k]
theorem nCh_is {k n D : Nat} (hk : 0 < k) (h1 : n - D * k ≤ k) (h2 : 0 < D → D * k < n) : nCh k (n - k) = D := by
  have a1 : D ≤ nCh k (n - k) := by
    rcases Nat.eq_zero_or_pos D with rfl | h
    · omega
    · obtain ⟨E, rfl⟩ : ∃ E, D = E + 1 := ⟨D - 1, by omega⟩
      have := h2 h
      rw [Nat.add_mul, Nat.one_mul] at this
      have := (nCh_lt hk).2 (show E * k < n - k by omega)
      omega
  rcases Nat.lt_or_ge D (nCh k (n - k)) with h | h
  · have := (nCh_lt hk).1 h; omega
  · omega
theorem set_mid {α : Type} (a : List α) (x y : α) (b : List α) : (a ++ [x] ++ b).set a.length y = a ++ [y] ++ b := by
  rw [List.append_assoc, List.set_append_right _ _ (Nat.le_refl _), Nat.sub_self, List.append_assoc]; rfl
theorem cellsPg_snoc (l : List Pg) (p : Pg) : cellsPg (l ++ [p]) = cellsPg l ++ [pgV p] := by unfold cellsPg; simp [encPg]
end Go.Proofs.Wk
/- Exposures: the document's pages walked. -/
namespace Go.Proofs.Wk
open Go.RowKit Go.Sort
set_option maxRecDepth 100000
set_option maxHeartbeats 4000000
attribute [local irreducible] Pw OpG
set_option linter.unusedVariables false
set_option linter.unusedSimpArgs false
theorem permHead {b : Blk} {l : List Blk} : (b :: l).Perm (l ++ [b]) := List.perm_append_comm (l₁ := [b])
abbrev gLL (q2 : Gr) (c2 : List Value) (e2 : TypeId) (q1 : Gr) (c1 : List Value) (e1 : TypeId) : List Blk := gL q2 c2 e2 ++ gL q1 c1 e1
def outC (dn : List Pg) (v : Value) : List Value := cellsPg dn ++ [v]
theorem outC_len (dn : List Pg) (v : Value) : (outC dn v).length = dn.length + 1 := by unfold outC; rw [List.length_append, cellsPg_len]; simp
theorem outC_get (dn : List Pg) (v : Value) (ex : List Value) : (outC dn v ++ ex)[dn.length]? = some v := by
  unfold outC
  have : (cellsPg dn).length = dn.length := by rw [cellsPg_len]; omega
  rw [List.append_assoc, List.getElem?_append_right (by omega), this, Nat.sub_self]; rfl
theorem outC_set (dn : List Pg) (v u : Value) (ex : List Value) : (outC dn v ++ ex).set dn.length u = outC dn u ++ ex := by
  unfold outC
  have : (cellsPg dn).length = dn.length := by rw [cellsPg_len]; omega
  rw [← this]; exact set_mid ..
theorem outC_ok {dn : List Pg} {v u : Value} {q : Gr} (h : gOk q (outC dn v) (dn.length + 1) 1) : gOk q (outC dn u) (dn.length + 1) 1 := by
  obtain _ | ⟨g, cap, ex⟩ := q
  · cases h.1
  · obtain ⟨h1, h2, h3⟩ := h
    rw [List.length_append, outC_len] at h3
    exact ⟨by rw [outC_len]; omega, h2, by rw [List.length_append, outC_len]; exact h3⟩
def Jp (h : Pt) (l : List Pt) (k i : Nat) (dn : List Pg) (q2 q1 : Gr) : Prop := dn.length * k ≤ i ∧ dn.map Prod.fst = (List.range dn.length).map (pgAt h l k) ∧ gOk q2 (cellsP (curP h l k i dn.length)) (curP h l k i dn.length).length 2 ∧ gOk q1 (outC dn (gv q2 (curP h l k i dn.length).length)) (dn.length + 1) 1
theorem rPages_ct (x : Ex) (hx : ExW x) (hl : x.oth.length ≤ 1000) (size : Int) (hs : size ≤ 9223372036854775807) :
    Ct Tryz.prog 30 #[exV x, .int .i64 size] (exF x) (fun r : List Pg × (Option Addr × Nat) => .tuple #[.slice r.2.1 (pagesR x size).1.length r.2.2, .int .i64 (pagesR x size).2]) (fun r => r.1.map Prod.fst = (pagesR x size).1) (fun r => PGS r.1 r.2) := by
  refine Ct.start Tryz.func30 rfl rfl (slots_of rfl slots2) (fun D w0 => ?_)
  try refine Pw.run ?_
  refine Pw.list (Pw.box rfl rfl rfl rfl (fun g2 => freeHead ?_))
  repeat (first | refine Pw.runs ?_ | refine Pw.list (Pw.box rfl rfl rfl rfl (fun _ => ?_)) | refine Pw.list (Pw.alloc rfl rfl rfl rfl rfl (fun _ => ?_)))
  refine Pw.list (Pw.call (xFormed_ct x) rfl rfl rfl (by kernel_rfl) rfl rfl (fun w h => (hv w h)) ?_)
  intro _ _
  cases hF : formX x
  · have e : pagesR x size = ([], 1) := if_pos (.inr hF)
    repeat (first | refine Pw.runs ?_ | refine Pw.list (Pw.box rfl rfl rfl rfl (fun _ => ?_)) | refine Pw.list (Pw.alloc rfl rfl rfl rfl rfl (fun _ => ?_)))
    exact Pw.ret_ (x := ([], (none, 0))) (.tmp rfl (.tmp rfl .nil)) (by rw [e]; rfl) (by rw [e]; rfl) (fun w h => Rows.nil _ _ _ _ _)
  repeat (first | refine Pw.runs ?_ | refine Pw.list (Pw.box rfl rfl rfl rfl (fun _ => ?_)) | refine Pw.list (Pw.alloc rfl rfl rfl rfl rfl (fun _ => ?_)))
  refine Pw.condD rfl (fun c1 => ?_) (fun c1 => ?_)
  · have e : pagesR x size = ([], 1) := if_pos (.inl c1)
    repeat (first | refine Pw.runs ?_ | refine Pw.list (Pw.box rfl rfl rfl rfl (fun _ => ?_)) | refine Pw.list (Pw.alloc rfl rfl rfl rfl rfl (fun _ => ?_)))
    exact Pw.ret_ (x := ([], (none, 0))) (.tmp rfl (.tmp rfl .nil)) (by rw [e]; rfl) (by rw [e]; rfl) (fun w h => Rows.nil _ _ _ _ _)
  repeat (first | refine Pw.runs ?_ | refine Pw.list (Pw.box rfl rfl rfl rfl (fun _ => ?_)) | refine Pw.list (Pw.alloc rfl rfl rfl rfl rfl (fun _ => ?_)))
  refine Pw.list (Pw.call (rTotal_ct x hx (by omega)) rfl rfl rfl (by kernel_rfl) rfl rfl (fun w h => (hv w h)) ?_)
  intro _ _
  repeat (first | refine Pw.runs ?_ | refine Pw.list (Pw.box rfl rfl rfl rfl (fun _ => ?_)) | refine Pw.list (Pw.alloc rfl rfl rfl rfl rfl (fun _ => ?_)))
  refine Pw.condD rfl (fun c2 => ?_) (fun c2 => ?_)
  · have e : pagesR x size = ([], (totX x).2) := by unfold pagesR; rw [if_neg (by rw [hF]; simp; omega), if_pos c2]
    repeat (first | refine Pw.runs ?_ | refine Pw.list (Pw.box rfl rfl rfl rfl (fun _ => ?_)) | refine Pw.list (Pw.alloc rfl rfl rfl rfl rfl (fun _ => ?_)))
    exact Pw.ret_ (x := ([], (none, 0))) (.tmp rfl (.tmp rfl .nil)) (by rw [e]; rfl) (by rw [e]; rfl) (fun w h => Rows.nil _ _ _ _ _)
  have eR : pagesR x size = (pagesS x size.toNat, 0) := by unfold pagesR; rw [if_neg (by rw [hF]; simp; omega), if_neg c2]
  rw [eR]
  obtain ⟨k, rfl⟩ : ∃ k : Nat, size = k := ⟨size.toNat, by omega⟩
  rw [Int.toNat_natCast]
  have hk : 1 ≤ k := by omega
  clear eR c1 c2
  obtain ⟨xi, xc, xo, oth, ⟨A, zc0⟩⟩ := x
  replace hl : oth.length ≤ 1000 := hl
  repeat (first | refine Pw.runs ?_ | refine Pw.list (Pw.box rfl rfl rfl rfl (fun _ => ?_)) | refine Pw.list (Pw.alloc rfl rfl rfl rfl rfl (fun _ => ?_)))
  refine Pw.facts (G' := [fun W => W.heap[g2]? = some (row [.int .i64 xi, .int .u64 xc, .int .u64 xo, .slice A oth.length zc0] 58), PS oth (A, zc0), PS [] (none, 0)]) (fun w h => allCons (fx h) (allCons (hv w h) (allCons (Rows.nil _ _ _ _ _) allNil))) ?_
  refine Pw.loopJ (σ := Nat × List Pt × (Option Addr × Nat)) (fun t => t.1 ≤ oth.length ∧ Fall t.2.1 ∧ t.2.1.Perm (oth.take t.1)) (fun t => ⟨[(1, .int .i64 k), (2, .pointer (some ⟨g2, 0, none⟩)), (8, psV t.2.1 t.2.2), (32, .int .i64 oth.length), (33, .int .i64 t.1)], [], [fun W => W.heap[g2]? = some (row [.int .i64 xi, .int .u64 xc, .int .u64 xo, .slice A oth.length zc0] 58), PS oth (A, zc0), PS t.2.1 t.2.2]⟩) (fun t => oth.length - t.1) (0, [], (none, 0)) ⟨Nat.zero_le _, List.Pairwise.nil, .refl _⟩ (Pw.enter ⟨rfl, rfl, rfl, rfl, rfl, trivial⟩ (fun w h => h)) ?_
  rintro ⟨i, l, za, zc⟩ ⟨hi, hfall, hperm⟩
  dsimp only at hi hfall hperm ⊢
  have hll0 : l.length = i := by rw [hperm.length_eq, List.length_take]; omega
  repeat (first | refine Pw.runs ?_ | refine Pw.list (Pw.box rfl rfl rfl rfl (fun _ => ?_)) | refine Pw.list (Pw.alloc rfl rfl rfl rfl rfl (fun _ => ?_)))
  refine Pw.condD rfl (fun c3 => ?_) (fun c3 => ?_)
  · obtain ⟨p, hp, hm⟩ := get_at (show i < oth.length by omega)
    refine Pw.use (p := A.isSome = true) (fun w h => (hv w h : PS oth (A, zc0) w).has (Int.natCast_nonneg i) c3) (fun hA => ?_)
    obtain ⟨ad0, rfl⟩ := Option.isSome_iff_exists.1 hA
    repeat (first | refine Pw.runs ?_ | refine Pw.list (Pw.box rfl rfl rfl rfl (fun _ => ?_)) | refine Pw.list (Pw.alloc rfl rfl rfl rfl rfl (fun _ => ?_)))
    refine Pw.loopJ (σ := Nat) (fun j => j ≤ l.length ∧ ∀ t, t < j → ∀ y, l[t]? = some y → aheadP y p = true) (fun j => ⟨[(1, .int .i64 k), (2, .pointer (some ⟨g2, 0, none⟩)), (8, psV l (za, zc)), (9, .int .i64 i), (10, .int .i64 j), (32, .int .i64 oth.length), (33, .int .i64 i)], [], [fun W => W.heap[g2]? = some (row [.int .i64 xi, .int .u64 xc, .int .u64 xo, .slice (some ad0) oth.length zc0] 58), PS oth (some ad0, zc0), PS l (za, zc)]⟩) (fun j => l.length - j) 0 ⟨Nat.zero_le _, fun j hj => absurd hj (Nat.not_lt_zero j)⟩ (Pw.enter ⟨rfl, rfl, rfl, rfl, rfl, rfl, rfl, trivial⟩ (fun w h => h)) ?_
    rintro j ⟨hj2, hj1⟩
    dsimp only at hj2 hj1 ⊢
    repeat (first | refine Pw.runs ?_ | refine Pw.list (Pw.box rfl rfl rfl rfl (fun _ => ?_)) | refine Pw.list (Pw.alloc rfl rfl rfl rfl rfl (fun _ => ?_)))
    refine Pw.drawnG mixed rfl rfl ?_
    refine Pw.takeP 0 (nb 16 1) rfl rfl rfl rfl (by kernel_rfl) np sf ?_
    refine Pw.takeP 1 (nb 16 3) rfl rfl rfl rfl (by kernel_rfl) np sf ?_
    refine Pw.takeP 2 (nb 16 7) rfl rfl rfl rfl (by kernel_rfl) np sf ?_
    refine Pw.takeP 3 (nb 16 15) rfl rfl rfl rfl (by kernel_rfl) np sf ?_
    refine Pw.takeP 4 (nb 16 31) rfl rfl rfl rfl (by kernel_rfl) np sf ?_
    by_cases hjl : j < l.length
    · obtain ⟨y, hy, _⟩ := get_at hjl
      refine Pw.use (p := za.isSome = true) (fun w h => (hv w h : PS l (za, zc) w).has (i := (j : Int)) (by omega) (by omega)) (fun hA => ?_)
      obtain ⟨zd, rfl⟩ := Option.isSome_iff_exists.1 hA
      refine Pw.re (d := 40) (v' := .bool true) rfl (congrArg Value.bool (decide_eq_true (by omega))) ?_
      refine Pw.takeP 5 (nb 16 63) rfl rfl rfl rfl (by kernel_rfl) np sf ?_
      refine Pw.takeP 6 (nb 16 127) rfl rfl rfl rfl (by kernel_rfl) np sf ?_
      refine Pw.takeIx 7 (nb 16 255) rfl rfl rfl rfl rfl (by first | assumption | omega) (by first | assumption | omega) rfl rfl (by kernel_rfl) np sf ?_
      refine Pw.takeLA y 8 (nb 16 511) rfl rfl inferInstance rfl (by first | assumption | (rw [Int.toNat_natCast]; assumption)) (by kernel_rfl) rfl rfl (by kernel_rfl) np sf ?_
      refine Pw.takeP 9 (nb 16 1023) rfl rfl rfl rfl (by kernel_rfl) np sf ?_
      refine Pw.takeF 10 (nb 16 2047) rfl rfl inferInstance rfl rfl rfl (by kernel_rfl) np sf ?_
      refine Pw.takeP 11 (nb 16 4095) rfl rfl rfl rfl (by kernel_rfl) np sf ?_
      refine Pw.takeIx 12 (nb 16 8191) rfl rfl rfl rfl rfl (by first | assumption | omega) (by first | assumption | omega) rfl rfl (by kernel_rfl) np sf ?_
      refine Pw.takeLA p 13 (nb 16 16383) rfl rfl inferInstance rfl (by first | assumption | (rw [Int.toNat_natCast]; assumption)) (by kernel_rfl) rfl rfl (by kernel_rfl) np sf ?_
      refine Pw.one 14 (nb 16 32767) rfl (by kernel_rfl) ?_
      -- call Op.call { callee := Callee.value (Operand.func 48), args := #[Operand.tmp 44, Operand.tmp 49], argTypes := #[93, 93] }
      refine Pw.call (ahead_ct y p) rfl rfl rfl (by kernel_rfl) rfl rfl (fun w h => trivial) ?_
      intro _ _
      refine Pw.held sf ?_
      refine Pw.takeP 15 (nb 16 65535) rfl rfl rfl rfl (by kernel_rfl) np sf ?_
      refine Pw.done (by kernel_rfl) ?_
      refine Pw.facts (G' := [fun W => W.heap[g2]? = some (row [.int .i64 xi, .int .u64 xc, .int .u64 xo, .slice (some ad0) oth.length zc0] 58), PS oth (some ad0, zc0), PS l (some zd, zc)]) (fun w h => allTail h) ?_
      cases hay : aheadP y p
      · have hj3 : ∀ t, l[j]? = some t → aheadP t p = false := fun t h => by rw [hy] at h; cases h; exact hay
        repeat (first | refine Pw.runs ?_ | refine Pw.list (Pw.box rfl rfl rfl rfl (fun _ => ?_)) | refine Pw.list (Pw.alloc rfl rfl rfl rfl rfl (fun _ => ?_)))
        refine Pw.use (p := l.length ≤ zc) (fun w h => (hv w h : PS l ((some zd), zc) w).le) (fun hlc => ?_)
        refine Pw.list (Pw.cutTo rfl rfl rfl rfl (Int.natCast_nonneg j) (by omega) rfl rfl ?_)
        refine Pw.list (Pw.pushG (s := none) (m := 0) (cells := []) (news := cellsP (l.take j)) (L0 := []) rfl rfl rfl rfl rfl rfl rfl ⟨rfl, rfl⟩ (by rw [cellsP_len, List.length_take, Int.toNat_natCast, Nat.min_eq_left hj2]; rfl) cellsP_one (fun w hs j' u hu => Rows.toCellsE ((hv w hs.all : PS l ((some zd), zc) w).take j) (by omega) j' u hu) (by show 0 < 2; omega) (by simp only [maxLen]; omega) (by show (0 + (j : Int).toNat) * 16 ≤ _; omega) rfl rfl (fun q1 hq1 => ?_))
        rw [Nat.zero_add, List.nil_append, Int.toNat_natCast] at hq1 ⊢
        repeat (first | refine Pw.runs ?_ | refine Pw.list (Pw.box rfl rfl rfl rfl (fun _ => ?_)) | refine Pw.list (Pw.alloc rfl rfl rfl rfl rfl (fun _ => ?_)))
        refine Pw.list (Pw.indexS rfl rfl rfl rfl (Int.natCast_nonneg i) c3 rfl rfl ?_)
        refine Pw.list (Pw.loadR p rfl inferInstance rfl (by rw [Int.toNat_natCast]; exact hp) (by kernel_rfl) rfl rfl ?_)
        refine Pw.re (d := 64) (v' := ptV p) rfl rfl ?_
        refine Pw.list (Pw.lit12 rfl rfl rfl rfl rfl rfl rfl rfl rfl (fun g65 => freeHead ?_))
        refine Pw.list (Pw.push (s := q1) (m := j) (cells := cellsP (l.take j)) (news := encP p) (L0 := []) rfl rfl rfl rfl rfl rfl rfl hq1 rfl (fun u hu => cellsP_one (l := [p]) u (by simpa [cellsP] using hu)) (fun w hs j' u hu => by
          have h1 : w.heap[g65]? = some (row (encP p) 93) := fact0 hs.all
          rw [add_none, cell_of_blk h1]
          simpa [encP] using hu) (by omega) (by simp only [maxLen]; omega) (by show (j + 1) * 16 ≤ _; omega) rfl rfl (fun q2 hq2 => ?_))
        repeat (first | refine Pw.runs ?_ | refine Pw.list (Pw.box rfl rfl rfl rfl (fun _ => ?_)) | refine Pw.list (Pw.alloc rfl rfl rfl rfl rfl (fun _ => ?_)))
        refine Pw.list (Pw.cutA rfl rfl rfl rfl (Int.natCast_nonneg j) (by omega) hlc rfl rfl ?_)
        refine Pw.list (Pw.pushG (s := q2) (m := j + 1) (cells := cellsP (l.take j) ++ encP p) (news := cellsP (l.drop j)) (L0 := []) rfl rfl rfl rfl rfl rfl rfl hq2 (by rw [cellsP_len, List.length_drop, Int.toNat_natCast]; rfl) cellsP_one (fun w hs j' u hu => Rows.toCellsE ((hv w hs.all : PS l ((some zd), zc) w).dropC j) (by omega) j' u hu) (by show 0 < 2; omega) (by simp only [maxLen]; omega) (by show (j + 1 + (l.length - (j : Int).toNat)) * 16 ≤ _; omega) rfl rfl (fun q3 hq3 => ?_))
        have ec : cellsP (l.take j) ++ encP p ++ cellsP (l.drop j) = cellsP (l.take j ++ [p] ++ l.drop j) := by unfold cellsP; simp
        have el : j + 1 + (l.length - (j : Int).toNat) = (l.take j ++ [p] ++ l.drop j).length := by rw [List.length_append, List.length_append, List.length_take, List.length_drop]; simp; omega
        rw [ec, el] at hq3 ⊢
        have hfall' := ins_fall hfall hj1 hj3
        have hperm' : (l.take j ++ [p] ++ l.drop j).Perm (oth.take (i + 1)) := ins_perm.trans (by rw [take_snoc hp]; exact hperm.append_right _)
        obtain ⟨l', hl'⟩ : ∃ l', l' = l.take j ++ [p] ++ l.drop j := ⟨_, rfl⟩
        have hll := congrArg List.length hl'
        rw [List.length_append, List.length_append, List.length_take, List.length_drop, List.length_singleton] at hll
        rw [← hl'] at hq3 hfall' hperm' ⊢
        repeat (first | refine Pw.runs ?_ | refine Pw.list (Pw.box rfl rfl rfl rfl (fun _ => ?_)) | refine Pw.list (Pw.alloc rfl rfl rfl rfl rfl (fun _ => ?_)))
        refine Pw.freeG hq3 (fun A c e hc => ?_)
        refine Pw.re (d := 8) (v' := psV l' (A, c)) rfl e ?_
        refine Pw.re (d := 33) (v' := .int .i64 ((i + 1 : Nat) : Int)) rfl (congrArg (Value.int .i64) (i64s (n := 100000) (by omega) (by omega))) ?_
        exact Pw.again (i + 1, l', (A, c)) ⟨by omega, hfall', hperm'⟩ (by show oth.length - (i + 1) < oth.length - i; omega) ⟨rfl, rfl, rfl, rfl, rfl, trivial⟩ rfl (fun w h => allCons (fx h) (allCons (hv w h) (allCons (rows_of_cells (fun _ _ => rfl) (fun _ _ => trivial) hc (by simp only [maxLen]; omega) (by omega) (fact0 h)) allNil)))
      · repeat (first | refine Pw.runs ?_ | refine Pw.list (Pw.box rfl rfl rfl rfl (fun _ => ?_)) | refine Pw.list (Pw.alloc rfl rfl rfl rfl rfl (fun _ => ?_)))
        refine Pw.re (d := 10) (v' := .int .i64 ((j + 1 : Nat) : Int)) rfl (congrArg (Value.int .i64) (i64s (n := 100000) (by omega) (by omega))) ?_
        exact Pw.again (j + 1) ⟨by omega, fun t ht => by
          rcases Nat.lt_or_ge t j with h | h
          · exact hj1 t h
          · obtain rfl : t = j := by omega
            intro z hz; rw [hy] at hz; cases hz; exact hay⟩ (by show l.length - (j + 1) < l.length - j; omega) ⟨rfl, rfl, rfl, rfl, rfl, rfl, rfl, trivial⟩ rfl (fun w h => h)
    · have hj3 : ∀ y, l[j]? = some y → aheadP y p = false := fun y h => by rw [List.getElem?_eq_none (by omega)] at h; cases h
      refine Pw.re (d := 40) (v' := .bool false) rfl (congrArg Value.bool (decide_eq_false (by omega))) ?_
      refine Pw.takeO 5 (nb 16 63) rfl rfl rfl (by kernel_rfl) np sf ?_
      refine Pw.takeO 6 (nb 16 127) rfl rfl rfl (by kernel_rfl) np sf ?_
      refine Pw.takeO 7 (nb 16 255) rfl rfl rfl (by kernel_rfl) np sf ?_
      refine Pw.takeO 8 (nb 16 511) rfl rfl rfl (by kernel_rfl) np sf ?_
      refine Pw.takeO 9 (nb 16 1023) rfl rfl rfl (by kernel_rfl) np sf ?_
      refine Pw.takeO 10 (nb 16 2047) rfl rfl rfl (by kernel_rfl) np sf ?_
      refine Pw.takeO 11 (nb 16 4095) rfl rfl rfl (by kernel_rfl) np sf ?_
      refine Pw.takeO 12 (nb 16 8191) rfl rfl rfl (by kernel_rfl) np sf ?_
      refine Pw.takeO 13 (nb 16 16383) rfl rfl rfl (by kernel_rfl) np sf ?_
      refine Pw.takeO 14 (nb 16 32767) rfl rfl rfl (by kernel_rfl) np sf ?_
      refine Pw.takeP 15 (nb 16 65535) rfl rfl rfl rfl (by kernel_rfl) np sf ?_
      refine Pw.done (by kernel_rfl) ?_
      repeat (first | refine Pw.runs ?_ | refine Pw.list (Pw.box rfl rfl rfl rfl (fun _ => ?_)) | refine Pw.list (Pw.alloc rfl rfl rfl rfl rfl (fun _ => ?_)))
      refine Pw.use (p := l.length ≤ zc) (fun w h => (hv w h : PS l (za, zc) w).le) (fun hlc => ?_)
      refine Pw.list (Pw.cutTo rfl rfl rfl rfl (Int.natCast_nonneg j) (by omega) rfl rfl ?_)
      refine Pw.list (Pw.pushG (s := none) (m := 0) (cells := []) (news := cellsP (l.take j)) (L0 := []) rfl rfl rfl rfl rfl rfl rfl ⟨rfl, rfl⟩ (by rw [cellsP_len, List.length_take, Int.toNat_natCast, Nat.min_eq_left hj2]; rfl) cellsP_one (fun w hs j' u hu => Rows.toCellsE ((hv w hs.all : PS l (za, zc) w).take j) (by omega) j' u hu) (by show 0 < 2; omega) (by simp only [maxLen]; omega) (by show (0 + (j : Int).toNat) * 16 ≤ _; omega) rfl rfl (fun q1 hq1 => ?_))
      rw [Nat.zero_add, List.nil_append, Int.toNat_natCast] at hq1 ⊢
      repeat (first | refine Pw.runs ?_ | refine Pw.list (Pw.box rfl rfl rfl rfl (fun _ => ?_)) | refine Pw.list (Pw.alloc rfl rfl rfl rfl rfl (fun _ => ?_)))
      refine Pw.list (Pw.indexS rfl rfl rfl rfl (Int.natCast_nonneg i) c3 rfl rfl ?_)
      refine Pw.list (Pw.loadR p rfl inferInstance rfl (by rw [Int.toNat_natCast]; exact hp) (by kernel_rfl) rfl rfl ?_)
      refine Pw.re (d := 64) (v' := ptV p) rfl rfl ?_
      refine Pw.list (Pw.lit12 rfl rfl rfl rfl rfl rfl rfl rfl rfl (fun g65 => freeHead ?_))
      refine Pw.list (Pw.push (s := q1) (m := j) (cells := cellsP (l.take j)) (news := encP p) (L0 := []) rfl rfl rfl rfl rfl rfl rfl hq1 rfl (fun u hu => cellsP_one (l := [p]) u (by simpa [cellsP] using hu)) (fun w hs j' u hu => by
        have h1 : w.heap[g65]? = some (row (encP p) 93) := fact0 hs.all
        rw [add_none, cell_of_blk h1]
        simpa [encP] using hu) (by omega) (by simp only [maxLen]; omega) (by show (j + 1) * 16 ≤ _; omega) rfl rfl (fun q2 hq2 => ?_))
      repeat (first | refine Pw.runs ?_ | refine Pw.list (Pw.box rfl rfl rfl rfl (fun _ => ?_)) | refine Pw.list (Pw.alloc rfl rfl rfl rfl rfl (fun _ => ?_)))
      refine Pw.list (Pw.cutA rfl rfl rfl rfl (Int.natCast_nonneg j) (by omega) hlc rfl rfl ?_)
      refine Pw.list (Pw.pushG (s := q2) (m := j + 1) (cells := cellsP (l.take j) ++ encP p) (news := cellsP (l.drop j)) (L0 := []) rfl rfl rfl rfl rfl rfl rfl hq2 (by rw [cellsP_len, List.length_drop, Int.toNat_natCast]; rfl) cellsP_one (fun w hs j' u hu => Rows.toCellsE ((hv w hs.all : PS l (za, zc) w).dropC j) (by omega) j' u hu) (by show 0 < 2; omega) (by simp only [maxLen]; omega) (by show (j + 1 + (l.length - (j : Int).toNat)) * 16 ≤ _; omega) rfl rfl (fun q3 hq3 => ?_))
      have ec : cellsP (l.take j) ++ encP p ++ cellsP (l.drop j) = cellsP (l.take j ++ [p] ++ l.drop j) := by unfold cellsP; simp
      have el : j + 1 + (l.length - (j : Int).toNat) = (l.take j ++ [p] ++ l.drop j).length := by rw [List.length_append, List.length_append, List.length_take, List.length_drop]; simp; omega
      rw [ec, el] at hq3 ⊢
      have hfall' := ins_fall hfall hj1 hj3
      have hperm' : (l.take j ++ [p] ++ l.drop j).Perm (oth.take (i + 1)) := ins_perm.trans (by rw [take_snoc hp]; exact hperm.append_right _)
      obtain ⟨l', hl'⟩ : ∃ l', l' = l.take j ++ [p] ++ l.drop j := ⟨_, rfl⟩
      have hll := congrArg List.length hl'
      rw [List.length_append, List.length_append, List.length_take, List.length_drop, List.length_singleton] at hll
      rw [← hl'] at hq3 hfall' hperm' ⊢
      repeat (first | refine Pw.runs ?_ | refine Pw.list (Pw.box rfl rfl rfl rfl (fun _ => ?_)) | refine Pw.list (Pw.alloc rfl rfl rfl rfl rfl (fun _ => ?_)))
      refine Pw.freeG hq3 (fun A c e hc => ?_)
      refine Pw.re (d := 8) (v' := psV l' (A, c)) rfl e ?_
      refine Pw.re (d := 33) (v' := .int .i64 ((i + 1 : Nat) : Int)) rfl (congrArg (Value.int .i64) (i64s (n := 100000) (by omega) (by omega))) ?_
      exact Pw.again (i + 1, l', (A, c)) ⟨by omega, hfall', hperm'⟩ (by show oth.length - (i + 1) < oth.length - i; omega) ⟨rfl, rfl, rfl, rfl, rfl, trivial⟩ rfl (fun w h => allCons (fx h) (allCons (hv w h) (allCons (rows_of_cells (fun _ _ => rfl) (fun _ _ => trivial) hc (by simp only [maxLen]; omega) (by omega) (fact0 h)) allNil)))
  · obtain rfl : i = oth.length := by omega
    rw [List.take_length] at hperm
    have hls : l = srt oth := fall_srt hfall hperm
    have hpg := pages_pgAt ⟨xi, xc, xo, oth, (A, zc0)⟩ k
    dsimp only at hpg
    rw [← hls] at hpg
    obtain ⟨h, hh⟩ : ∃ h : Pt, h = (xi, xo) := ⟨_, rfl⟩
    rw [← hh] at hpg
    repeat (first | refine Pw.runs ?_ | refine Pw.list (Pw.box rfl rfl rfl rfl (fun _ => ?_)) | refine Pw.list (Pw.alloc rfl rfl rfl rfl rfl (fun _ => ?_)))
    refine Pw.list (Pw.lit12 rfl rfl rfl rfl rfl rfl rfl rfl rfl (fun g78 => ?_))
    refine Pw.list (Pw.lit1 rfl rfl rfl rfl rfl rfl rfl rfl rfl (fun g79 => ?_))
    repeat (first | refine Pw.runs ?_ | refine Pw.list (Pw.box rfl rfl rfl rfl (fun _ => ?_)) | refine Pw.list (Pw.alloc rfl rfl rfl rfl rfl (fun _ => ?_)))
    refine Pw.facts (G' := [PS l (za, zc), HeldAll []]) (fun w h => allCons (hv w h) (allCons (fun p hp => by cases hp) allNil)) ?_
    refine Pw.perm (L' := [⟨g78, row [.int .i64 xi, .int .u64 xo] 93⟩, ⟨g79, row [.slice (some ⟨g78, 0, none⟩) 1 1] 44⟩]) (.swap ..) ?_
    have ec0 : curP h l k 0 0 = [h] := by simp [curP]
    have hJ0 : Jp h l k 0 [] (some (g78, 1, [])) (some (g79, 1, [])) := ⟨by simp, rfl, by show gOk _ (cellsP (curP h l k 0 0)) (curP h l k 0 0).length 2; rw [ec0]; exact ⟨rfl, Nat.le_refl _, rfl⟩, rfl, Nat.le_refl _, rfl⟩
    refine Pw.eqL (L' := gLL (some (g78, 1, [])) (cellsP (curP h l k 0 0)) 93 (some (g79, 1, [])) (outC [] (gv (some (g78, 1, [])) (curP h l k 0 0).length)) 44) (by rw [ec0, hh]; rfl) ?_
    refine Pw.loopJ (σ := Nat × List Pg × Gr × Gr) (fun t => t.1 ≤ l.length ∧ Jp h l k t.1 t.2.1 t.2.2.1 t.2.2.2 ∧ t.1 - t.2.1.length * k ≤ k ∧ (0 < t.2.1.length → t.2.1.length * k < t.1)) (fun t => ⟨[(1, .int .i64 k), (8, psV l (za, zc)), (12, gv t.2.2.2 (t.2.1.length + 1)), (13, .int .i64 ((t.1 - t.2.1.length * k : Nat) : Int)), (81, .int .i64 l.length), (82, .int .i64 t.1)], gLL t.2.2.1 (cellsP (curP h l k t.1 t.2.1.length)) 93 t.2.2.2 (outC t.2.1 (gv t.2.2.1 (curP h l k t.1 t.2.1.length).length)) 44, [PS l (za, zc), HeldAll t.2.1]⟩) (fun t => l.length - t.1) (0, [], some (g78, 1, []), some (g79, 1, [])) ⟨Nat.zero_le _, hJ0, by simp, by simp⟩ (Pw.enter ⟨rfl, rfl, rfl, by simp; rfl, rfl, rfl, trivial⟩ (fun w h => h)) ?_
    rintro ⟨i, dn, q2, q1⟩ ⟨hi, ⟨hD1, hdn, hq2, hq1⟩, hD2, hD3⟩
    dsimp only at hi hD1 hdn hq2 hq1 hD2 hD3 ⊢
    have hcl := cur_len (h := h) (l := l) (k := k) (i := i) (D := dn.length)
    have hDk : dn.length ≤ dn.length * k := Nat.le_mul_of_pos_right _ (by omega)
    repeat (first | refine Pw.runs ?_ | refine Pw.list (Pw.box rfl rfl rfl rfl (fun _ => ?_)) | refine Pw.list (Pw.alloc rfl rfl rfl rfl rfl (fun _ => ?_)))
    refine Pw.condD rfl (fun c3 => ?_) (fun c3 => ?_)
    · obtain ⟨p, hp, _⟩ := get_at (show i < l.length by omega)
      repeat (first | refine Pw.runs ?_ | refine Pw.list (Pw.box rfl rfl rfl rfl (fun _ => ?_)) | refine Pw.list (Pw.alloc rfl rfl rfl rfl rfl (fun _ => ?_)))
      refine Pw.joinF (σ := List Pg × Gr × Gr) (fun t => Jp h l k i t.1 t.2.1 t.2.2 ∧ i - t.1.length * k < k) (fun t => ⟨[(1, .int .i64 k), (8, psV l (za, zc)), (12, gv t.2.2 (t.1.length + 1)), (13, .int .i64 ((i - t.1.length * k : Nat) : Int)), (14, .int .i64 i), (81, .int .i64 l.length), (82, .int .i64 i)], gLL t.2.1 (cellsP (curP h l k i t.1.length)) 93 t.2.2 (outC t.1 (gv t.2.1 (curP h l k i t.1.length).length)) 44, [PS l (za, zc), HeldAll t.1]⟩) ?_ ?_
      · refine Pw.condD rfl (fun c4 => ?_) (fun c4 => ?_)
        · repeat (first | refine Pw.runs ?_ | refine Pw.list (Pw.box rfl rfl rfl rfl (fun _ => ?_)) | refine Pw.list (Pw.alloc rfl rfl rfl rfl rfl (fun _ => ?_)))
          refine Pw.list (Pw.lit1 rfl rfl rfl rfl rfl rfl rfl rfl rfl (fun g89 => freeHead ?_))
          refine Pw.perm List.perm_append_comm ?_
          refine Pw.list (Pw.push (s := q1) (m := dn.length + 1) (cells := outC dn (gv q2 (curP h l k i dn.length).length)) (news := [.slice none 0 0]) (L0 := gL q2 (cellsP (curP h l k i dn.length)) 93) rfl rfl rfl rfl rfl rfl rfl hq1 rfl (fun u hu => by rw [List.mem_singleton.1 hu]; rfl) (fun w hs j u hu => by
            have h1 : w.heap[g89]? = some (row [.slice none 0 0] 44) := fact0 hs.all
            rw [add_none, cell_of_blk h1]
            simpa using hu) (by omega) (by simp only [maxLen]; omega) (by show (dn.length + 1 + 1) * 24 ≤ _; omega) rfl rfl (fun q1' hq1' => ?_))
          repeat (first | refine Pw.runs ?_ | refine Pw.list (Pw.box rfl rfl rfl rfl (fun _ => ?_)) | refine Pw.list (Pw.alloc rfl rfl rfl rfl rfl (fun _ => ?_)))
          refine Pw.perm List.perm_append_comm ?_
          refine Pw.freeG hq2 (fun A' c' e hc => ?_)
          rw [e] at hq1' ⊢
          have e1 : outC dn (.slice A' (curP h l k i dn.length).length c') ++ [.slice none 0 0] = outC (dn ++ [(curP h l k i dn.length, (A', c'))]) (.slice none 0 0) := by unfold outC; rw [cellsPg_snoc]
          rw [e1] at hq1' ⊢
          have el : (dn ++ [(curP h l k i dn.length, (A', c'))]).length = dn.length + 1 := by rw [List.length_append]; rfl
          have hik : i = (dn.length + 1) * k := by rw [Nat.add_mul, Nat.one_mul]; omega
          have ez : curP h l k i (dn.length + 1) = [] := cur_zero hik
          have hJ' : Jp h l k i (dn ++ [(curP h l k i dn.length, (A', c'))]) none q1' := by
            refine ⟨by rw [el]; omega, ?_, by rw [el, ez]; exact ⟨rfl, rfl⟩, by rw [el, ez]; exact hq1'⟩
            rw [el, List.map_append, hdn, List.range_succ, List.map_append]
            show _ ++ [curP h l k i dn.length] = _ ++ [pgAt h l k dn.length]
            rw [cur_full (by omega)]
          refine Pw.re (d := 12) (v' := gv q1' ((dn ++ [(curP h l k i dn.length, (A', c'))]).length + 1)) rfl (by rw [el]) ?_
          refine Pw.re (d := 13) (v' := .int .i64 ((i - (dn ++ [(curP h l k i dn.length, (A', c'))]).length * k : Nat) : Int)) rfl (by rw [el, ← hik, Nat.sub_self]; rfl) ?_
          exact Pw.arrive (dn ++ [(curP h l k i dn.length, (A', c'))], none, q1') ⟨hJ', by show i - _ * k < k; rw [el, ← hik]; omega⟩ ⟨rfl, rfl, rfl, rfl, rfl, rfl, rfl, trivial⟩ (by show _ = gLL none _ _ q1' _ _; rw [el, ez]; rfl) (fun w hw => allCons (hv w hw : PS l (za, zc) w) (allCons (fun p hp => by
            rcases List.mem_append.1 hp with hp | hp
            · exact (hv w hw : HeldAll dn w) p hp
            · rw [List.mem_singleton.1 hp]
              exact rows_of_cells (fun _ _ => rfl) (fun _ _ => trivial) hc (by simp only [maxLen]; omega) (by omega) (fact0 hw)) allNil))
        · repeat (first | refine Pw.runs ?_ | refine Pw.list (Pw.box rfl rfl rfl rfl (fun _ => ?_)) | refine Pw.list (Pw.alloc rfl rfl rfl rfl rfl (fun _ => ?_)))
          exact Pw.arrive (dn, q2, q1) ⟨⟨hD1, hdn, hq2, hq1⟩, by show i - dn.length * k < k; omega⟩ ⟨rfl, rfl, rfl, rfl, rfl, rfl, rfl, trivial⟩ rfl (fun w h => h)
      · clear hDk hcl hD3 hD2 hq1 hq2 hdn hD1
        rintro ⟨dm, r2, r1⟩ ⟨⟨hD1, hdn, hr2, hr1⟩, hD2⟩
        dsimp only at hD1 hD2 hdn hr2 hr1 ⊢
        have hcl := cur_len (h := h) (l := l) (k := k) (i := i) (D := dm.length)
        have hDk : dm.length ≤ dm.length * k := Nat.le_mul_of_pos_right _ (by omega)
        obtain _ | ⟨g1, cap1, ex1⟩ := r1
        · cases hr1.1
        refine Pw.use (p := za.isSome = true) (fun w h => (hv w h : PS l (za, zc) w).has (i := (i : Int)) (by omega) (by omega)) (fun hA => ?_)
        obtain ⟨zd, rfl⟩ := Option.isSome_iff_exists.1 hA
        have hw1 : wrap64 (((dm.length + 1 : Nat) : Int) - 1) = ((dm.length : Nat) : Int) := by rw [wi64 (by omega) (by omega)]; omega
        have hw2 : 0 ≤ wrap64 (((dm.length + 1 : Nat) : Int) - 1) ∧ wrap64 (((dm.length + 1 : Nat) : Int) - 1) < ((dm.length + 1 : Nat) : Int) := by rw [hw1]; omega
        obtain ⟨hw3, hw4⟩ := hw2
        have es := cur_snoc (h := h) (k := k) (D := dm.length) hp hD1
        have ecs : cellsP (curP h l k i dm.length) ++ encP p = cellsP (curP h l k (i + 1) dm.length) := by rw [es, cellsP_snoc]
        have ecl : (curP h l k i dm.length).length + 1 = (curP h l k (i + 1) dm.length).length := by rw [es, List.length_append]; rfl
        obtain ⟨cu, hcu⟩ : ∃ cu, cu = curP h l k i dm.length := ⟨_, rfl⟩
        rw [← hcu] at hr2 hr1 hcl ecs ecl ⊢
        repeat (first | refine Pw.runs ?_ | refine Pw.list (Pw.box rfl rfl rfl rfl (fun _ => ?_)) | refine Pw.list (Pw.alloc rfl rfl rfl rfl rfl (fun _ => ?_)))
        refine Pw.drawnG mixed rfl rfl ?_
        refine Pw.takeP 0 (nb 18 1) rfl rfl rfl rfl (by kernel_rfl) np sf ?_
        refine Pw.takeP 1 (nb 18 3) rfl rfl rfl rfl (by kernel_rfl) np sf ?_
        refine Pw.takeP 2 (nb 18 7) rfl rfl rfl rfl (by kernel_rfl) np sf ?_
        refine Pw.takeP 3 (nb 18 15) rfl rfl rfl rfl (by kernel_rfl) np sf ?_
        refine Pw.takeP 4 (nb 18 31) rfl rfl rfl rfl (by kernel_rfl) np sf ?_
        refine Pw.takeP 5 (nb 18 63) rfl rfl rfl rfl (by kernel_rfl) np sf ?_
        refine Pw.takeP 6 (nb 18 127) rfl rfl rfl rfl (by kernel_rfl) np sf ?_
        refine Pw.takeP 7 (nb 18 255) rfl rfl rfl rfl (by kernel_rfl) np sf ?_
        refine Pw.takeIx 8 (nb 18 511) rfl rfl rfl rfl rfl (by first | assumption | omega) (by first | assumption | omega) rfl rfl (by kernel_rfl) np sf ?_
        refine Pw.takeP 10 (nb 18 1535) rfl rfl rfl rfl (by kernel_rfl) np sf ?_
        refine Pw.takeP 11 (nb 18 3583) rfl rfl rfl rfl (by kernel_rfl) np sf ?_
        refine Pw.takeIx 12 (nb 18 7679) rfl rfl rfl rfl rfl (by first | assumption | omega) (by first | assumption | omega) rfl rfl (by kernel_rfl) np sf ?_
        refine Pw.two 9 13 (nb 18 8191) (nb 18 15871) rfl rfl (by kernel_rfl) ?_ ?_
        · skip
          refine Pw.load1 (v := gv r2 cu.length) rfl rfl (fun w hs => by
            have hb : w.heap[g1]? = some (row (outC dm (gv r2 cu.length) ++ ex1) 44) := hs.own _ (List.mem_append_right _ (.head _))
            show w.cell? (Addr.add ⟨g1, 0, none⟩ ((wrap64 (((dm.length + 1 : Nat) : Int) - 1)).toNat * 1)) = _
            rw [hw1, Int.toNat_natCast, Nat.mul_one, add_none, Nat.zero_add, cell_of_blk hb, outC_get]) rfl rfl ?_
          refine Pw.held sf ?_
          refine Pw.one 13 (nb 18 16383) rfl (by kernel_rfl) ?_
          refine Pw.loadR p rfl inferInstance rfl (by rw [Int.toNat_natCast]; exact hp) (by kernel_rfl) rfl rfl ?_
          refine Pw.re (d := 104) (v' := ptV p) rfl rfl ?_
          refine Pw.held sf ?_
          refine Pw.one 14 (nb 18 32767) rfl (by kernel_rfl) ?_
          refine Pw.lit12 rfl rfl rfl rfl rfl rfl rfl rfl rfl (fun g5 => freeHead ?_)
          refine Pw.held sf ?_
          refine Pw.one 15 (nb 18 65535) rfl (by kernel_rfl) ?_
          refine Pw.push (s := r2) (m := cu.length) (cells := cellsP cu) (news := encP p) (L0 := gL (some (g1, cap1, ex1)) (outC dm (gv r2 cu.length)) 44) rfl rfl rfl rfl rfl rfl rfl hr2 rfl (fun u hu => cellsP_one (l := [p]) u (by simpa [cellsP] using hu)) (fun w hs j' u hu => by
            have h1 : w.heap[g5]? = some (row (encP p) 93) := by first | exact fact0 hs.all | exact fact1 hs.all | exact fact2 hs.all
            rw [add_none, cell_of_blk h1]
            simpa [encP] using hu) (by omega) (by simp only [maxLen]; omega) (by show (cu.length + 1) * 16 ≤ _; omega) rfl rfl (fun r2' hr2' => ?_)
          rw [ecs, ecl] at hr2' ⊢
          refine Pw.held sf ?_
          refine Pw.takeIx 16 (nb 18 131071) rfl rfl rfl rfl rfl (by first | assumption | omega) (by first | assumption | omega) rfl rfl (by kernel_rfl) np sf ?_
          refine Pw.one 17 (nb 18 262143) rfl (by kernel_rfl) ?_
          refine Pw.perm List.perm_append_comm ?_
          refine Pw.re (d := 107) (v' := .pointer (some ⟨g1, dm.length, none⟩)) rfl (by show Value.pointer (some (Addr.add ⟨g1, 0, none⟩ ((wrap64 (((dm.length + 1 : Nat) : Int) - 1)).toNat * 1))) = _; rw [hw1, Int.toNat_natCast, Nat.mul_one, add_none, Nat.zero_add]) ?_
          refine Pw.storeO (cs := outC dm (gv r2 cu.length) ++ ex1) (cs' := outC dm (gv r2' (curP h l k (i + 1) dm.length).length) ++ ex1) rfl rfl rfl rfl (by cases r2' <;> rfl) (by rw [List.length_append, outC_len]; omega) (outC_set ..) .head rfl ?_
          refine Pw.perm (L' := gLL r2' (cellsP (curP h l k (i + 1) dm.length)) 93 (some (g1, cap1, ex1)) (outC dm (gv r2' (curP h l k (i + 1) dm.length).length)) 44) permHead ?_
          refine Pw.held sf ?_
          refine Pw.done (by kernel_rfl) ?_
          repeat (first | refine Pw.runs ?_ | refine Pw.list (Pw.box rfl rfl rfl rfl (fun _ => ?_)) | refine Pw.list (Pw.alloc rfl rfl rfl rfl rfl (fun _ => ?_)))
          refine Pw.re (d := 13) (v' := .int .i64 ((i + 1 - dm.length * k : Nat) : Int)) rfl (congrArg (Value.int .i64) (by rw [wi64 (by omega) (by omega)]; omega)) ?_
          refine Pw.re (d := 82) (v' := .int .i64 ((i + 1 : Nat) : Int)) rfl (congrArg (Value.int .i64) (i64s (n := 100000) (by omega) (by omega))) ?_
          exact Pw.again (i + 1, dm, r2', some (g1, cap1, ex1)) ⟨by omega, ⟨by show dm.length * k ≤ i + 1; omega, hdn, hr2', outC_ok hr1⟩, by show i + 1 - dm.length * k ≤ k; omega, fun _ => by show dm.length * k < i + 1; omega⟩ (by show l.length - (i + 1) < l.length - i; omega) ⟨rfl, rfl, rfl, rfl, rfl, rfl, trivial⟩ rfl (fun w h => allCons (hv w h) (allCons (hv w h) allNil))
        · skip
          refine Pw.loadR p rfl inferInstance rfl (by rw [Int.toNat_natCast]; exact hp) (by kernel_rfl) rfl rfl ?_
          refine Pw.re (d := 104) (v' := ptV p) rfl rfl ?_
          refine Pw.held sf ?_
          refine Pw.two 9 14 (nb 18 16383) (nb 18 32255) rfl rfl (by kernel_rfl) ?_ ?_
          · skip
            refine Pw.load1 (v := gv r2 cu.length) rfl rfl (fun w hs => by
              have hb : w.heap[g1]? = some (row (outC dm (gv r2 cu.length) ++ ex1) 44) := hs.own _ (List.mem_append_right _ (.head _))
              show w.cell? (Addr.add ⟨g1, 0, none⟩ ((wrap64 (((dm.length + 1 : Nat) : Int) - 1)).toNat * 1)) = _
              rw [hw1, Int.toNat_natCast, Nat.mul_one, add_none, Nat.zero_add, cell_of_blk hb, outC_get]) rfl rfl ?_
            refine Pw.held sf ?_
            refine Pw.one 14 (nb 18 32767) rfl (by kernel_rfl) ?_
            refine Pw.lit12 rfl rfl rfl rfl rfl rfl rfl rfl rfl (fun g5 => freeHead ?_)
            refine Pw.held sf ?_
            refine Pw.one 15 (nb 18 65535) rfl (by kernel_rfl) ?_
            refine Pw.push (s := r2) (m := cu.length) (cells := cellsP cu) (news := encP p) (L0 := gL (some (g1, cap1, ex1)) (outC dm (gv r2 cu.length)) 44) rfl rfl rfl rfl rfl rfl rfl hr2 rfl (fun u hu => cellsP_one (l := [p]) u (by simpa [cellsP] using hu)) (fun w hs j' u hu => by
              have h1 : w.heap[g5]? = some (row (encP p) 93) := by first | exact fact0 hs.all | exact fact1 hs.all | exact fact2 hs.all
              rw [add_none, cell_of_blk h1]
              simpa [encP] using hu) (by omega) (by simp only [maxLen]; omega) (by show (cu.length + 1) * 16 ≤ _; omega) rfl rfl (fun r2' hr2' => ?_)
            rw [ecs, ecl] at hr2' ⊢
            refine Pw.held sf ?_
            refine Pw.takeIx 16 (nb 18 131071) rfl rfl rfl rfl rfl (by first | assumption | omega) (by first | assumption | omega) rfl rfl (by kernel_rfl) np sf ?_
            refine Pw.one 17 (nb 18 262143) rfl (by kernel_rfl) ?_
            refine Pw.perm List.perm_append_comm ?_
            refine Pw.re (d := 107) (v' := .pointer (some ⟨g1, dm.length, none⟩)) rfl (by show Value.pointer (some (Addr.add ⟨g1, 0, none⟩ ((wrap64 (((dm.length + 1 : Nat) : Int) - 1)).toNat * 1))) = _; rw [hw1, Int.toNat_natCast, Nat.mul_one, add_none, Nat.zero_add]) ?_
            refine Pw.storeO (cs := outC dm (gv r2 cu.length) ++ ex1) (cs' := outC dm (gv r2' (curP h l k (i + 1) dm.length).length) ++ ex1) rfl rfl rfl rfl (by cases r2' <;> rfl) (by rw [List.length_append, outC_len]; omega) (outC_set ..) .head rfl ?_
            refine Pw.perm (L' := gLL r2' (cellsP (curP h l k (i + 1) dm.length)) 93 (some (g1, cap1, ex1)) (outC dm (gv r2' (curP h l k (i + 1) dm.length).length)) 44) permHead ?_
            refine Pw.held sf ?_
            refine Pw.done (by kernel_rfl) ?_
            repeat (first | refine Pw.runs ?_ | refine Pw.list (Pw.box rfl rfl rfl rfl (fun _ => ?_)) | refine Pw.list (Pw.alloc rfl rfl rfl rfl rfl (fun _ => ?_)))
            refine Pw.re (d := 13) (v' := .int .i64 ((i + 1 - dm.length * k : Nat) : Int)) rfl (congrArg (Value.int .i64) (by rw [wi64 (by omega) (by omega)]; omega)) ?_
            refine Pw.re (d := 82) (v' := .int .i64 ((i + 1 : Nat) : Int)) rfl (congrArg (Value.int .i64) (i64s (n := 100000) (by omega) (by omega))) ?_
            exact Pw.again (i + 1, dm, r2', some (g1, cap1, ex1)) ⟨by omega, ⟨by show dm.length * k ≤ i + 1; omega, hdn, hr2', outC_ok hr1⟩, by show i + 1 - dm.length * k ≤ k; omega, fun _ => by show dm.length * k < i + 1; omega⟩ (by show l.length - (i + 1) < l.length - i; omega) ⟨rfl, rfl, rfl, rfl, rfl, rfl, trivial⟩ rfl (fun w h => allCons (hv w h) (allCons (hv w h) allNil))
          · skip
            refine Pw.lit12 rfl rfl rfl rfl rfl rfl rfl rfl rfl (fun g5 => freeHead ?_)
            refine Pw.held sf ?_
            refine Pw.one 9 (nb 18 32767) rfl (by kernel_rfl) ?_
            refine Pw.load1 (v := gv r2 cu.length) rfl rfl (fun w hs => by
              have hb : w.heap[g1]? = some (row (outC dm (gv r2 cu.length) ++ ex1) 44) := hs.own _ (List.mem_append_right _ (.head _))
              show w.cell? (Addr.add ⟨g1, 0, none⟩ ((wrap64 (((dm.length + 1 : Nat) : Int) - 1)).toNat * 1)) = _
              rw [hw1, Int.toNat_natCast, Nat.mul_one, add_none, Nat.zero_add, cell_of_blk hb, outC_get]) rfl rfl ?_
            refine Pw.held sf ?_
            refine Pw.one 15 (nb 18 65535) rfl (by kernel_rfl) ?_
            refine Pw.push (s := r2) (m := cu.length) (cells := cellsP cu) (news := encP p) (L0 := gL (some (g1, cap1, ex1)) (outC dm (gv r2 cu.length)) 44) rfl rfl rfl rfl rfl rfl rfl hr2 rfl (fun u hu => cellsP_one (l := [p]) u (by simpa [cellsP] using hu)) (fun w hs j' u hu => by
              have h1 : w.heap[g5]? = some (row (encP p) 93) := by first | exact fact0 hs.all | exact fact1 hs.all | exact fact2 hs.all
              rw [add_none, cell_of_blk h1]
              simpa [encP] using hu) (by omega) (by simp only [maxLen]; omega) (by show (cu.length + 1) * 16 ≤ _; omega) rfl rfl (fun r2' hr2' => ?_)
            rw [ecs, ecl] at hr2' ⊢
            refine Pw.held sf ?_
            refine Pw.takeIx 16 (nb 18 131071) rfl rfl rfl rfl rfl (by first | assumption | omega) (by first | assumption | omega) rfl rfl (by kernel_rfl) np sf ?_
            refine Pw.one 17 (nb 18 262143) rfl (by kernel_rfl) ?_
            refine Pw.perm List.perm_append_comm ?_
            refine Pw.re (d := 107) (v' := .pointer (some ⟨g1, dm.length, none⟩)) rfl (by show Value.pointer (some (Addr.add ⟨g1, 0, none⟩ ((wrap64 (((dm.length + 1 : Nat) : Int) - 1)).toNat * 1))) = _; rw [hw1, Int.toNat_natCast, Nat.mul_one, add_none, Nat.zero_add]) ?_
            refine Pw.storeO (cs := outC dm (gv r2 cu.length) ++ ex1) (cs' := outC dm (gv r2' (curP h l k (i + 1) dm.length).length) ++ ex1) rfl rfl rfl rfl (by cases r2' <;> rfl) (by rw [List.length_append, outC_len]; omega) (outC_set ..) .head rfl ?_
            refine Pw.perm (L' := gLL r2' (cellsP (curP h l k (i + 1) dm.length)) 93 (some (g1, cap1, ex1)) (outC dm (gv r2' (curP h l k (i + 1) dm.length).length)) 44) permHead ?_
            refine Pw.held sf ?_
            refine Pw.done (by kernel_rfl) ?_
            repeat (first | refine Pw.runs ?_ | refine Pw.list (Pw.box rfl rfl rfl rfl (fun _ => ?_)) | refine Pw.list (Pw.alloc rfl rfl rfl rfl rfl (fun _ => ?_)))
            refine Pw.re (d := 13) (v' := .int .i64 ((i + 1 - dm.length * k : Nat) : Int)) rfl (congrArg (Value.int .i64) (by rw [wi64 (by omega) (by omega)]; omega)) ?_
            refine Pw.re (d := 82) (v' := .int .i64 ((i + 1 : Nat) : Int)) rfl (congrArg (Value.int .i64) (i64s (n := 100000) (by omega) (by omega))) ?_
            exact Pw.again (i + 1, dm, r2', some (g1, cap1, ex1)) ⟨by omega, ⟨by show dm.length * k ≤ i + 1; omega, hdn, hr2', outC_ok hr1⟩, by show i + 1 - dm.length * k ≤ k; omega, fun _ => by show dm.length * k < i + 1; omega⟩ (by show l.length - (i + 1) < l.length - i; omega) ⟨rfl, rfl, rfl, rfl, rfl, rfl, trivial⟩ rfl (fun w h => allCons (hv w h) (allCons (hv w h) allNil))
    · obtain rfl : i = l.length := by omega
      have hnc := nCh_is (k := k) (n := l.length) (D := dn.length) (by omega) hD2 hD3
      rw [show oth.length = l.length by omega, hnc] at hpg
      rw [hpg]
      have eD : curP h l k l.length dn.length = pgAt h l k dn.length := cur_last hD2
      repeat (first | refine Pw.runs ?_ | refine Pw.list (Pw.box rfl rfl rfl rfl (fun _ => ?_)) | refine Pw.list (Pw.alloc rfl rfl rfl rfl rfl (fun _ => ?_)))
      refine Pw.freeG hq2 (fun A' c' e hc => ?_)
      rw [e] at hq1 ⊢
      have e1 : outC dn (.slice A' (curP h l k l.length dn.length).length c') = cellsPg (dn ++ [(curP h l k l.length dn.length, (A', c'))]) := by unfold outC; rw [cellsPg_snoc]
      rw [e1] at hq1 ⊢
      refine Pw.eqL (L' := gL q1 (cellsPg (dn ++ [(curP h l k l.length dn.length, (A', c'))])) 44 ++ []) (by simp) ?_
      refine Pw.freeG hq1 (fun B cb eB hcb => ?_)
      refine Pw.re (d := 4) (v' := .slice B (dn.length + 1) cb) rfl eB ?_
      exact Pw.ret_ (x := (dn ++ [(curP h l k l.length dn.length, (A', c'))], (B, cb))) (.tmp rfl (.tmp rfl .nil)) (by rw [List.length_map, List.length_range, Nat.add_comm]; rfl) (by rw [List.map_append, hdn, Nat.add_comm 1, List.range_succ, List.map_append, List.map_singleton, List.map_singleton, ← eD]) (fun w hw => rows_of_cells (fun _ _ => rfl) (fun y hy => by
        rcases List.mem_append.1 hy with hy | hy
        · exact (hv w hw : HeldAll dn w) y hy
        · rw [List.mem_singleton.1 hy]
          exact rows_of_cells (fun _ _ => rfl) (fun _ _ => trivial) hc (by simp only [maxLen]; omega) (by omega) (fact1 hw)) (by rw [List.length_append]; exact hcb) (by rw [List.length_append, List.length_singleton]; simp only [maxLen]; omega) (by omega) (fact0 hw))
end Go.Proofs.Wk
