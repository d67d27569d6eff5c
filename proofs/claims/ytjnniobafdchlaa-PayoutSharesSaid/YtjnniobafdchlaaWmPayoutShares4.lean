/- Walks and their mathematics, merged. No conditions beyond those written. -/
import Derived.Test.YtjnniobafdchlaaWmPayoutShares3
/- PayoutShares. -/
namespace Go.Proofs.Wk
open Go.RowKit
set_option maxRecDepth 100000
set_option maxHeartbeats 8000000
attribute [local irreducible] Pw OpG
set_option linter.unusedVariables false
set_option linter.unusedSimpArgs false
theorem PayoutShares_ct (a : Int) (x : Ex) (s : Int) (ha : U64 a) (hx : ExW x) (hs : 0 ≤ s ∧ s ≤ 255) : Ct Try.prog 3 #[.int .u64 a, exV x, .int .u8 s] (exF x) (fun _ : Unit => .bool true) Tt (fun _ _ => True) := by
  refine Ct.start Try.func3 rfl rfl (slots_of rfl slots3) (fun D w0 => ?_)
  try refine Pw.run ?_
  refine Pw.list (Pw.box rfl rfl rfl rfl (fun g4 => freeHead ?_))
  repeat (first | refine Pw.runs ?_ | refine Pw.list (Pw.box rfl rfl rfl rfl (fun _ => ?_)) | refine Pw.list (Pw.alloc rfl rfl rfl rfl rfl (fun _ => ?_)))
  refine Pw.list (Pw.call poAwake_ct rfl rfl rfl (by kernel_rfl) rfl rfl (fun w h => trivial) ?_)
  intro _ _
  repeat (first | refine Pw.runs ?_ | refine Pw.list (Pw.box rfl rfl rfl rfl (fun _ => ?_)) | refine Pw.list (Pw.alloc rfl rfl rfl rfl rfl (fun _ => ?_)))
  refine Pw.list (Pw.lit14 rfl rfl rfl rfl rfl rfl rfl rfl rfl (fun g1 => freeHead ?_))
  refine Pw.list (Pw.call (poFew_ct [x] (some ⟨g1, 0, none⟩, 1)) rfl rfl rfl (by kernel_rfl) rfl rfl (fun w h => rows_of_row (l := [x]) (ex := []) (by rw [List.append_nil]; exact fact0 h) (fun y hy => rfl) (fun y hy => by rw [List.mem_singleton.1 hy]; exact (hv w h : exF x w)) (Nat.le_refl _) (by simp [maxLen]) (by omega)) ?_)
  intro r hr
  cases r
  · repeat (first | refine Pw.runs ?_ | refine Pw.list (Pw.box rfl rfl rfl rfl (fun _ => ?_)) | refine Pw.list (Pw.alloc rfl rfl rfl rfl rfl (fun _ => ?_)))
    refine Pw.list (Pw.call poAwake_ct rfl rfl rfl (by kernel_rfl) rfl rfl (fun w h => trivial) ?_)
    intro _ _
    repeat (first | refine Pw.runs ?_ | refine Pw.list (Pw.box rfl rfl rfl rfl (fun _ => ?_)) | refine Pw.list (Pw.alloc rfl rfl rfl rfl rfl (fun _ => ?_)))
    exact Pw.ret_ (x := ()) (.tmp rfl .nil) rfl trivial (fun w h => by trivial)
  have hl : x.oth.length ≤ 60 := (hr rfl).2 x (List.mem_singleton.2 rfl)
  clear hr
  repeat (first | refine Pw.runs ?_ | refine Pw.list (Pw.box rfl rfl rfl rfl (fun _ => ?_)) | refine Pw.list (Pw.alloc rfl rfl rfl rfl rfl (fun _ => ?_)))
  obtain ⟨k, hk⟩ : ∃ k : Nat, 1 + s.tmod 32 = (k : Int) ∧ 1 ≤ k ∧ k ≤ 32 := by
    have h1 := Int.tmod_nonneg 32 hs.1
    have h2 := Int.tmod_lt_of_pos s (show (0 : Int) < 32 by omega)
    exact ⟨(1 + s.tmod 32).toNat, by omega⟩
  obtain ⟨hk, hk1, hk2⟩ := hk
  refine Pw.re (d := 7) (v' := .int .i64 (k : Int)) rfl (congrArg (Value.int .i64) (by rw [← hk]; have h1 := Int.tmod_nonneg 32 hs.1; have h2 := Int.tmod_lt_of_pos s (show (0 : Int) < 32 by omega); rw [wi64 (n := s.tmod 32) (by omega) (by omega)]; exact wi64 (by omega) (by omega))) ?_
  repeat (first | refine Pw.runs ?_ | refine Pw.list (Pw.box rfl rfl rfl rfl (fun _ => ?_)) | refine Pw.list (Pw.alloc rfl rfl rfl rfl rfl (fun _ => ?_)))
  refine Pw.list (Pw.lit14 rfl rfl rfl rfl rfl rfl rfl rfl rfl (fun g2 => freeHead ?_))
  refine Pw.list (Pw.call (poTheirs_ct [x] (some ⟨g2, 0, none⟩, 1) (by simp)) rfl rfl rfl (by kernel_rfl) rfl rfl (fun w h => rows_of_row (l := [x]) (ex := []) (by rw [List.append_nil]; exact fact0 h) (fun y hy => rfl) (fun y hy => by rw [List.mem_singleton.1 hy]; exact (hv w h : exF x w)) (Nat.le_refl _) (by simp [maxLen]) (by omega)) ?_)
  intro z _
  refine Pw.list (Pw.lit1 rfl rfl rfl rfl rfl rfl rfl rfl rfl (fun g3 => freeHead ?_))
  repeat (first | refine Pw.runs ?_ | refine Pw.list (Pw.box rfl rfl rfl rfl (fun _ => ?_)) | refine Pw.list (Pw.alloc rfl rfl rfl rfl rfl (fun _ => ?_)))
  have hX : XW [x] := ⟨fun y hy => by rw [List.mem_singleton.1 hy]; exact hx, fun y hy => by rw [List.mem_singleton.1 hy]; omega, by simp⟩
  have hp1 : ∀ p ∈ [(1 : Int)], U64 p := fun p hp => by rw [List.mem_singleton.1 hp]; unfold U64; decide
  refine Pw.list (Pw.callB (L0 := []) (poNew_ct a [x] z [1] (some ⟨g3, 0, none⟩, 1) (k : Int) ha hX hp1 (by omega)) rfl rfl rfl rfl (by kernel_rfl) rfl rfl (fun w h => ⟨(hv w h : XS [x] z w), ints_of_cells (Nat.le_refl _) (by simp [maxLen]) (fun j u hu => ⟨_, rfl, by rw [add_none, cell_of_blk (fact0 h)]; simpa using hu⟩)⟩) ?_)
  rintro (_ | ⟨gr, ga, st⟩) hR
  · dsimp only at hR ⊢
    repeat (first | refine Pw.runs ?_ | refine Pw.list (Pw.box rfl rfl rfl rfl (fun _ => ?_)) | refine Pw.list (Pw.alloc rfl rfl rfl rfl rfl (fun _ => ?_)))
    refine Pw.condD rfl (fun c1 => ?_) (fun c1 => ?_)
    · repeat (first | refine Pw.runs ?_ | refine Pw.list (Pw.box rfl rfl rfl rfl (fun _ => ?_)) | refine Pw.list (Pw.alloc rfl rfl rfl rfl rfl (fun _ => ?_)))
      exact Pw.ret_ (x := ()) (.tmp rfl .nil) rfl trivial (fun w h => by trivial)
    · exact absurd (by omega) hR
  obtain ⟨he, hN⟩ := hR
  replace hN : NewOk (k : Int).toNat a [x] [1] [x].length st := hN
  obtain ⟨⟨e, bs0⟩, rfl⟩ : ∃ t, st = [t] := List.length_eq_one_iff.1 hN.1
  have hall := new_all hN he ha hX hp1
  have hids := new_ids hN (newErr_ok he).2.2.2
  obtain ⟨x', sh, hx', hsh, hne⟩ := new_ne hN he ha hX hp1 (i := 0) rfl
  obtain rfl : x = x' := Option.some.inj hx'
  have hfx : formX x = true := (okX_ok (newErr_ok he).2.2.2).1 x (List.mem_singleton.2 rfl)
  have htx : (totX x).2 = 0 := by
    have h1 := he
    unfold newErr at h1
    rw [if_neg (by have := newErr_ok he; simp only [not_or]; exact ⟨by omega, by omega, by simp, by rw [this.2.2.2]; decide⟩)] at h1
    split at h1
    next ht =>
      unfold totOk at ht
      simpa using ht
    next => cases h1
  have eR : pagesR x (k : Int) = (pagesS x k, 0) := by unfold pagesR; rw [if_neg (by rw [hfx]; simp; omega), if_neg (by rw [htx]; simp), Int.toNat_natCast]
  rw [Int.toNat_natCast] at hne
  dsimp only
  repeat (first | refine Pw.runs ?_ | refine Pw.list (Pw.box rfl rfl rfl rfl (fun _ => ?_)) | refine Pw.list (Pw.alloc rfl rfl rfl rfl rfl (fun _ => ?_)))
  refine Pw.list (Pw.call (rPages_ct x hx (by omega) (k : Int) (by omega)) rfl rfl rfl (by kernel_rfl) rfl rfl (fun w h => (hv w h)) ?_)
  rintro ⟨P, ⟨Ap, cp⟩⟩ hP
  rw [eR] at hP ⊢
  dsimp only at hP ⊢
  have hPl : P.length = (pagesS x k).length := by rw [← hP, List.length_map]
  rw [← hPl]
  have hpl := pages_le (x := x) (k := k) (by omega)
  generalize leftTo (k : Int).toNat a [x] [1] [x].length = left
  repeat (first | refine Pw.runs ?_ | refine Pw.list (Pw.box rfl rfl rfl rfl (fun _ => ?_)) | refine Pw.list (Pw.alloc rfl rfl rfl rfl rfl (fun _ => ?_)))
  refine Pw.loopJ (σ := Nat × List Int) (fun t => t.1 ≤ P.length ∧ Wf (e, t.2) ∧ ∀ j, t.1 ≤ j → j < P.length → paidB (e, t.2) j = false) (fun t => ⟨[(4, .pointer (some ⟨g4, 0, none⟩)), (8, .pointer (some ⟨gr, 0, none⟩)), (10, .slice Ap P.length cp), (53, .int .i64 P.length), (54, .int .i64 t.1)], rwL [(e, t.2)], [rwF gr ga left [(e, bs0)], PGS P (Ap, cp), fun W => W.heap[g4]? = some (row (exL x) 25)]⟩) (fun t => P.length - t.1) (0, bs0) ⟨Nat.zero_le _, hne.wf, fun j _ hj => hne.fr j (by rw [hne.l, ← hPl]; exact hj)⟩ (Pw.enter ⟨rfl, rfl, rfl, rfl, rfl, trivial⟩ (fun w h => allCons (fact1 h) (allCons (hv w h) (allCons (fx h) allNil)))) ?_
  rintro ⟨i, bs⟩ ⟨hi, hw, hfr⟩
  dsimp only at hi hw hfr ⊢
  repeat (first | refine Pw.runs ?_ | refine Pw.list (Pw.box rfl rfl rfl rfl (fun _ => ?_)) | refine Pw.list (Pw.alloc rfl rfl rfl rfl rfl (fun _ => ?_)))
  refine Pw.condD rfl (fun c3 => ?_) (fun c3 => ?_)
  · obtain ⟨⟨pg, ⟨Az, zc⟩⟩, hpi, hpm⟩ := get_at (show i < P.length by omega)
    have hpg : (pagesS x k)[i]? = some pg := by rw [← hP, List.getElem?_map, hpi]; rfl
    obtain ⟨b, hbU, hbi, hbE, hpA, hpS, hok⟩ := one_pay hx hne hw hpg (hfr i (Nat.le_refl _) (by omega))
    have hids2 : (idsS [(e, bs)]).Nodup := by simp
    have hw2 : ∀ s ∈ [(e, bs)], Wf s := fun s hs => by rw [List.mem_singleton.1 hs]; exact hw
    have hu2 : ∀ s ∈ [(e, bs)], Eu s := fun s hs => by rw [List.mem_singleton.1 hs]; exact hne.eu.bs
    have hb2 := hbU.2
    refine Pw.use (p := Ap.isSome = true) (fun w h => (fact1 h).has (Int.natCast_nonneg i) c3) (fun hA => ?_)
    obtain ⟨pad, rfl⟩ := Option.isSome_iff_exists.1 hA
    repeat (first | refine Pw.runs ?_ | refine Pw.list (Pw.box rfl rfl rfl rfl (fun _ => ?_)) | refine Pw.list (Pw.alloc rfl rfl rfl rfl rfl (fun _ => ?_)))
    have hcB := poBudget_ct gr ga left [(e, bs)] x.id (i : Int) hids2 hw2
    rw [hbE] at hcB
    refine Pw.list (Pw.call hcB rfl rfl rfl (by kernel_rfl) rfl rfl (fun w h => rwF_bs (hv w h : rwF gr ga left [(e, bs0)] w)) ?_)
    intro _ _
    repeat (first | refine Pw.runs ?_ | refine Pw.list (Pw.box rfl rfl rfl rfl (fun _ => ?_)) | refine Pw.list (Pw.alloc rfl rfl rfl rfl rfl (fun _ => ?_)))
    have hcP := poPay_ct gr ga left [(e, bs)] x.id (i : Int) hids2 hw2 hu2
    rw [hpA, hpS] at hcP
    refine Pw.list (Pw.callB (L0 := []) hcP rfl rfl rfl rfl (by kernel_rfl) rfl rfl (fun w h => rwF_bs (hv w h : rwF gr ga left [(e, bs0)] w)) ?_)
    rintro ⟨Aq, qc⟩ _
    obtain ⟨bs', hbs'⟩ : ∃ bs', setB (e, bs) i = (e, bs') := ⟨_, rfl⟩
    have hel : e.pg.length = P.length := by rw [hPl]; exact hne.l
    have hii : i < e.pg.length := by omega
    have hw' : Wf (e, bs') := hbs' ▸ hw.set hii
    have hfr' : ∀ j, i + 1 ≤ j → j < P.length → paidB (e, bs') j = false := fun j h1 h2 => by
      rw [← hbs', paid_set hw hii (by show j < e.pg.length; omega), hfr j (by omega) h2, decide_eq_false (by omega)]; rfl
    rw [hbs']
    dsimp only
    obtain ⟨Py, hPy⟩ : ∃ Py, payL x.id b x.com pg = Py := ⟨_, rfl⟩
    obtain ⟨du, hdu⟩ : ∃ du, (amtE b x.com pg).2 = du := ⟨_, rfl⟩
    rw [hPy, hdu] at hok ⊢
    have hlen := hok.len
    have hpgl : pg.length ≤ 61 := by have := page_le (x := x) (k := k) pg (List.mem_of_getElem? hpg); omega
    repeat (first | refine Pw.runs ?_ | refine Pw.list (Pw.box rfl rfl rfl rfl (fun _ => ?_)) | refine Pw.list (Pw.alloc rfl rfl rfl rfl rfl (fun _ => ?_)))
    refine Pw.facts (G' := [PS Py (Aq, qc), rwF gr ga left [(e, bs0)], PGS P (some pad, cp), fun W => W.heap[g4]? = some (row (exL x) 25)]) (fun w h => allCons (hv w h) (allCons (hv w h) (allCons (hv w h) (allCons (fx h) allNil)))) ?_
    repeat (first | refine Pw.runs ?_ | refine Pw.list (Pw.box rfl rfl rfl rfl (fun _ => ?_)) | refine Pw.list (Pw.alloc rfl rfl rfl rfl rfl (fun _ => ?_)))
    refine Pw.list (Pw.indexS rfl rfl rfl rfl (Int.natCast_nonneg i) c3 rfl rfl ?_)
    refine Pw.list (Pw.loadC (pg, Az, zc) rfl inferInstance rfl (by rw [Int.toNat_natCast]; exact hpi) rfl rfl rfl rfl ?_)
    repeat (first | refine Pw.runs ?_ | refine Pw.list (Pw.box rfl rfl rfl rfl (fun _ => ?_)) | refine Pw.list (Pw.alloc rfl rfl rfl rfl rfl (fun _ => ?_)))
    refine Pw.re (d := 90) (v' := .bool false) rfl (congrArg Value.bool (decide_eq_false (fun c => c (by show ((Py.length : Nat) : Int) = wrap64 (1 + ((pg.length : Nat) : Int)); rw [wi64 (n := 1 + ((pg.length : Nat) : Int)) (by omega) (by omega), hlen]; omega)))) ?_
    repeat (first | refine Pw.runs ?_ | refine Pw.list (Pw.box rfl rfl rfl rfl (fun _ => ?_)) | refine Pw.list (Pw.alloc rfl rfl rfl rfl rfl (fun _ => ?_)))
    have hxc : 0 ≤ x.com ∧ x.com ≤ 1000000000 := by have h1 := hne.eu.c; have h2 : e.x = x := hne.e.ex; replace h1 : 0 ≤ e.x.com ∧ e.x.com ≤ 1000000000 := h1; rw [h2] at h1; exact h1
    have hpl4 : P.length ≤ 61 := by omega
    refine Pw.use (p := Aq.isSome = true) (fun w h => (hv w h : PS Py (Aq, qc) w).has (i := 0) (Int.le_refl _) (by omega)) (fun hA => ?_)
    obtain ⟨qd, rfl⟩ := Option.isSome_iff_exists.1 hA
    refine Pw.re (d := 18) (v' := .int .u64 (du + lsum (stk (Py.take 0)))) rfl (congrArg (Value.int .u64) (show du = du + 0 from (Int.add_zero du).symm)) ?_
    refine Pw.loopJ (σ := Nat) (fun m => m ≤ Py.length) (fun m => ⟨[(4, .pointer (some ⟨g4, 0, none⟩)), (8, .pointer (some ⟨gr, 0, none⟩)), (10, .slice (some pad) P.length cp), (12, .int .i64 i), (13, .int .u64 b), (15, .slice (some qd) Py.length qc), (18, .int .u64 (du + lsum (stk (Py.take m)))), (53, .int .i64 P.length), (54, .int .i64 i), (93, .int .i64 Py.length), (94, .int .i64 m)], rwL [(e, bs')], [PS Py (some qd, qc), PS pg (Az, zc), rwF gr ga left [(e, bs0)], PGS P (some pad, cp), fun W => W.heap[g4]? = some (row (exL x) 25)]⟩) (fun m => Py.length - m) 0 (Nat.zero_le _) (Pw.enter ⟨rfl, rfl, rfl, rfl, rfl, rfl, rfl, rfl, rfl, rfl, rfl, trivial⟩ (fun w h => allCons (hv w h) (allCons ((hv w h : PGS P (some pad, cp) w).at hpi).2.1 (allCons (hv w h) (allCons (hv w h) (allCons (fx h) allNil)))))) ?_
    rintro m hm
    dsimp only at hm ⊢
    repeat (first | refine Pw.runs ?_ | refine Pw.list (Pw.box rfl rfl rfl rfl (fun _ => ?_)) | refine Pw.list (Pw.alloc rfl rfl rfl rfl rfl (fun _ => ?_)))
    refine Pw.condD rfl (fun c5 => ?_) (fun c5 => ?_)
    · obtain ⟨q1, hq1, hq1m⟩ := get_at (show m < Py.length by omega)
      have hm0 : (0 : Int) ≤ (m : Int) := Int.natCast_nonneg m
      have hs1 := hok.part m
      have hs2 := hok.part (m + 1)
      have hsn := lsum_stk_snoc hq1
      repeat (first | refine Pw.runs ?_ | refine Pw.list (Pw.box rfl rfl rfl rfl (fun _ => ?_)) | refine Pw.list (Pw.alloc rfl rfl rfl rfl rfl (fun _ => ?_)))
      refine Pw.list (Pw.indexS rfl rfl rfl rfl hm0 c5 rfl rfl ?_)
      refine Pw.list (Pw.fieldS rfl rfl rfl rfl rfl rfl rfl ?_)
      refine Pw.list (Pw.loadF q1 rfl inferInstance rfl (by rw [Int.toNat_natCast]; exact hq1) rfl rfl rfl rfl ?_)
      repeat (first | refine Pw.runs ?_ | refine Pw.list (Pw.box rfl rfl rfl rfl (fun _ => ?_)) | refine Pw.list (Pw.alloc rfl rfl rfl rfl rfl (fun _ => ?_)))
      refine Pw.re (d := 18) (v' := .int .u64 (du + lsum (stk (Py.take (m + 1))))) rfl (congrArg (Value.int .u64) (by rw [hsn, ← Int.add_assoc]; exact wu (by omega) (by omega))) ?_
      obtain _ | m := m
      · skip
        refine Pw.drawnG mixed rfl rfl ?_
        refine Pw.takeP 0 (nb 39 1) rfl rfl rfl rfl (by kernel_rfl) np sf ?_
        refine Pw.takeP 1 (nb 39 3) rfl rfl rfl rfl (by kernel_rfl) np sf ?_
        refine Pw.takeP 2 (nb 39 7) rfl rfl rfl rfl (by kernel_rfl) np sf ?_
        refine Pw.re (d := 106) (v' := .bool false) rfl rfl ?_
        refine Pw.takeO 3 (nb 39 15) rfl rfl rfl (by kernel_rfl) np sf ?_
        refine Pw.takeO 4 (nb 39 31) rfl rfl rfl (by kernel_rfl) np sf ?_
        refine Pw.takeO 5 (nb 39 63) rfl rfl rfl (by kernel_rfl) np sf ?_
        refine Pw.takeO 6 (nb 39 127) rfl rfl rfl (by kernel_rfl) np sf ?_
        refine Pw.takeO 7 (nb 39 255) rfl rfl rfl (by kernel_rfl) np sf ?_
        refine Pw.takeO 8 (nb 39 511) rfl rfl rfl (by kernel_rfl) np sf ?_
        refine Pw.takeO 9 (nb 39 1023) rfl rfl rfl (by kernel_rfl) np sf ?_
        refine Pw.takeO 10 (nb 39 2047) rfl rfl rfl (by kernel_rfl) np sf ?_
        refine Pw.takeO 11 (nb 39 4095) rfl rfl rfl (by kernel_rfl) np sf ?_
        refine Pw.takeO 12 (nb 39 8191) rfl rfl rfl (by kernel_rfl) np sf ?_
        refine Pw.takeO 13 (nb 39 16383) rfl rfl rfl (by kernel_rfl) np sf ?_
        refine Pw.takeO 14 (nb 39 32767) rfl rfl rfl (by kernel_rfl) np sf ?_
        refine Pw.takeO 15 (nb 39 65535) rfl rfl rfl (by kernel_rfl) np sf ?_
        refine Pw.takeO 16 (nb 39 131071) rfl rfl rfl (by kernel_rfl) np sf ?_
        refine Pw.takeO 17 (nb 39 262143) rfl rfl rfl (by kernel_rfl) np sf ?_
        refine Pw.takeO 18 (nb 39 524287) rfl rfl rfl (by kernel_rfl) np sf ?_
        refine Pw.takeO 19 (nb 39 1048575) rfl rfl rfl (by kernel_rfl) np sf ?_
        refine Pw.takeO 20 (nb 39 2097151) rfl rfl rfl (by kernel_rfl) np sf ?_
        refine Pw.takeO 21 (nb 39 4194303) rfl rfl rfl (by kernel_rfl) np sf ?_
        refine Pw.takeO 22 (nb 39 8388607) rfl rfl rfl (by kernel_rfl) np sf ?_
        refine Pw.takeO 23 (nb 39 16777215) rfl rfl rfl (by kernel_rfl) np sf ?_
        refine Pw.takeO 24 (nb 39 33554431) rfl rfl rfl (by kernel_rfl) np sf ?_
        refine Pw.takeO 25 (nb 39 67108863) rfl rfl rfl (by kernel_rfl) np sf ?_
        refine Pw.takeO 26 (nb 39 134217727) rfl rfl rfl (by kernel_rfl) np sf ?_
        refine Pw.takeO 27 (nb 39 268435455) rfl rfl rfl (by kernel_rfl) np sf ?_
        refine Pw.takeO 28 (nb 39 536870911) rfl rfl rfl (by kernel_rfl) np sf ?_
        refine Pw.takeO 29 (nb 39 1073741823) rfl rfl rfl (by kernel_rfl) np sf ?_
        refine Pw.takeO 30 (nb 39 2147483647) rfl rfl rfl (by kernel_rfl) np sf ?_
        refine Pw.takeO 31 (nb 39 4294967295) rfl rfl rfl (by kernel_rfl) np sf ?_
        refine Pw.takeO 32 (nb 39 8589934591) rfl rfl rfl (by kernel_rfl) np sf ?_
        refine Pw.takeO 33 (nb 39 17179869183) rfl rfl rfl (by kernel_rfl) np sf ?_
        refine Pw.takeO 34 (nb 39 34359738367) rfl rfl rfl (by kernel_rfl) np sf ?_
        refine Pw.takeO 35 (nb 39 68719476735) rfl rfl rfl (by kernel_rfl) np sf ?_
        refine Pw.takeO 36 (nb 39 137438953471) rfl rfl rfl (by kernel_rfl) np sf ?_
        refine Pw.takeO 37 (nb 39 274877906943) rfl rfl rfl (by kernel_rfl) np sf ?_
        refine Pw.takeP 38 (nb 39 549755813887) rfl rfl rfl rfl (by kernel_rfl) np sf ?_
        refine Pw.done (by kernel_rfl) ?_
        refine Pw.re (d := 142) (v' := .bool false) rfl rfl ?_
        repeat (first | refine Pw.runs ?_ | refine Pw.list (Pw.box rfl rfl rfl rfl (fun _ => ?_)) | refine Pw.list (Pw.alloc rfl rfl rfl rfl rfl (fun _ => ?_)))
        refine Pw.loopJ (σ := Unit) (fun _ => True) (fun _ => ⟨[(4, .pointer (some ⟨g4, 0, none⟩)), (8, .pointer (some ⟨gr, 0, none⟩)), (10, .slice (some pad) P.length cp), (12, .int .i64 i), (13, .int .u64 b), (15, .slice (some qd) Py.length qc), (18, .int .u64 (du + lsum (stk (Py.take (0 + 1))))), (19, .int .i64 ((0 : Nat) : Int)), (20, .int .i64 1), (53, .int .i64 P.length), (54, .int .i64 i), (93, .int .i64 Py.length), (94, .int .i64 ((0 : Nat) : Int))], rwL [(e, bs')], [PS Py (some qd, qc), PS pg (Az, zc), rwF gr ga left [(e, bs0)], PGS P (some pad, cp), fun W => W.heap[g4]? = some (row (exL x) 25)]⟩) (fun _ => 0) () trivial (Pw.enter ⟨rfl, rfl, rfl, rfl, rfl, rfl, rfl, rfl, rfl, rfl, rfl, rfl, rfl, trivial⟩ (fun w h => allTail h)) ?_
        rintro _ _
        dsimp only
        repeat (first | refine Pw.runs ?_ | refine Pw.list (Pw.box rfl rfl rfl rfl (fun _ => ?_)) | refine Pw.list (Pw.alloc rfl rfl rfl rfl rfl (fun _ => ?_)))
        refine Pw.re (d := 94) (v' := .int .i64 ((0 + 1 : Nat) : Int)) rfl (congrArg (Value.int .i64) (i64s (n := 100000) (by omega) (by omega))) ?_
        exact Pw.again (0 + 1) (by omega) (by show Py.length - (0 + 1) < Py.length - 0; omega) ⟨rfl, rfl, rfl, rfl, rfl, rfl, rfl, rfl, rfl, rfl, rfl, trivial⟩ rfl (fun w h => h)
      · obtain ⟨q, hq, hqm⟩ := get_at (show m < pg.length by omega)
        have e3 : q1 = (q.1, amOf b x.com pg q.2) := by have := hok.at hq; rw [hq1] at this; exact Option.some.inj this
        have e4 : q1.2 = amOf b x.com pg q.2 := by rw [e3]
        have e6 : q1.1 = q.1 := by rw [e3]
        refine Pw.use (p := Az.isSome = true) (fun w h => (fact2 h).has (Int.natCast_nonneg m) (by omega)) (fun hA => ?_)
        obtain ⟨pd, rfl⟩ := Option.isSome_iff_exists.1 hA
        refine Pw.drawnG mixed rfl rfl ?_
        refine Pw.takeP 0 (nb 39 1) rfl rfl rfl rfl (by kernel_rfl) np sf ?_
        refine Pw.takeP 1 (nb 39 3) rfl rfl rfl rfl (by kernel_rfl) np sf ?_
        refine Pw.takeP 2 (nb 39 7) rfl rfl rfl rfl (by kernel_rfl) np sf ?_
        refine Pw.re (d := 106) (v' := .bool true) rfl (congrArg Value.bool (decide_eq_true (by omega))) ?_
        refine Pw.takeP 3 (nb 39 15) rfl rfl rfl rfl (by kernel_rfl) np sf ?_
        refine Pw.takeP 4 (nb 39 31) rfl rfl rfl rfl (by kernel_rfl) np sf ?_
        refine Pw.takeIx 5 (nb 39 63) rfl rfl rfl rfl rfl (by first | assumption | omega) (by first | assumption | omega) rfl rfl (by kernel_rfl) np sf ?_
        refine Pw.takeFS 6 (nb 39 127) rfl rfl rfl rfl rfl rfl rfl rfl (by kernel_rfl) np sf ?_
        refine Pw.takeLF q1 7 (nb 39 255) rfl rfl inferInstance rfl (by first | assumption | (rw [Int.toNat_natCast]; assumption)) rfl rfl rfl rfl (by kernel_rfl) np sf ?_
        refine Pw.takeP 8 (nb 39 511) rfl rfl rfl rfl (by kernel_rfl) np sf ?_
        refine Pw.takeP 9 (nb 39 1023) rfl rfl rfl rfl (by kernel_rfl) np sf ?_
        refine Pw.takeIx 10 (nb 39 2047) rfl rfl rfl rfl rfl (by first | assumption | omega) (by first | assumption | omega) rfl rfl (by kernel_rfl) np sf ?_
        refine Pw.takeLC (pg, some pd, zc) 11 (nb 39 4095) rfl rfl inferInstance rfl (by first | assumption | (rw [Int.toNat_natCast]; assumption)) rfl rfl rfl rfl (by kernel_rfl) np sf ?_
        refine Pw.re (d := 115) (v' := .slice (some pd) pg.length zc) rfl rfl ?_
        refine Pw.takeP 12 (nb 39 8191) rfl rfl rfl rfl (by kernel_rfl) np sf ?_
        refine Pw.takeP 13 (nb 39 16383) rfl rfl rfl rfl (by kernel_rfl) np sf ?_
        refine Pw.re (d := 117) (v' := .int .i64 (m : Int)) rfl (congrArg (Value.int .i64) (by rw [wi64 (n := ((m + 1 : Nat) : Int) - 1) (by omega) (by omega)]; omega)) ?_
        refine Pw.takeIx 14 (nb 39 32767) rfl rfl rfl rfl rfl (by first | assumption | omega) (by first | assumption | omega) rfl rfl (by kernel_rfl) np sf ?_
        refine Pw.takeFS 15 (nb 39 65535) rfl rfl rfl rfl rfl rfl rfl rfl (by kernel_rfl) np sf ?_
        refine Pw.takeLF q 16 (nb 39 131071) rfl rfl inferInstance rfl (by first | assumption | (rw [Int.toNat_natCast]; assumption)) rfl rfl rfl rfl (by kernel_rfl) np sf ?_
        refine Pw.takeP 17 (nb 39 262143) rfl rfl rfl rfl (by kernel_rfl) np sf ?_
        refine Pw.takeP 18 (nb 39 524287) rfl rfl rfl rfl (by kernel_rfl) np sf ?_
        refine Pw.re (d := 122) (v' := .bool false) rfl (congrArg Value.bool (decide_eq_false (fun c => c e6))) ?_
        refine Pw.takeP 19 (nb 39 1048575) rfl rfl rfl rfl (by kernel_rfl) np sf ?_
        refine Pw.takeP 20 (nb 39 2097151) rfl rfl rfl rfl (by kernel_rfl) np sf ?_
        refine Pw.takeIx 21 (nb 39 4194303) rfl rfl rfl rfl rfl (by first | assumption | omega) (by first | assumption | omega) rfl rfl (by kernel_rfl) np sf ?_
        refine Pw.takeLC (pg, some pd, zc) 22 (nb 39 8388607) rfl rfl inferInstance rfl (by first | assumption | (rw [Int.toNat_natCast]; assumption)) rfl rfl rfl rfl (by kernel_rfl) np sf ?_
        refine Pw.re (d := 126) (v' := .slice (some pd) pg.length zc) rfl rfl ?_
        refine Pw.takeP 23 (nb 39 16777215) rfl rfl rfl rfl (by kernel_rfl) np sf ?_
        refine Pw.takeP 24 (nb 39 33554431) rfl rfl rfl rfl (by kernel_rfl) np sf ?_
        refine Pw.re (d := 128) (v' := .int .i64 (m : Int)) rfl (congrArg (Value.int .i64) (by rw [wi64 (n := ((m + 1 : Nat) : Int) - 1) (by omega) (by omega)]; omega)) ?_
        refine Pw.takeIx 25 (nb 39 67108863) rfl rfl rfl rfl rfl (by first | assumption | omega) (by first | assumption | omega) rfl rfl (by kernel_rfl) np sf ?_
        refine Pw.takeFS 26 (nb 39 134217727) rfl rfl rfl rfl rfl rfl rfl rfl (by kernel_rfl) np sf ?_
        refine Pw.takeLF q 27 (nb 39 268435455) rfl rfl inferInstance rfl (by first | assumption | (rw [Int.toNat_natCast]; assumption)) rfl rfl rfl rfl (by kernel_rfl) np sf ?_
        refine Pw.takeP 28 (nb 39 536870911) rfl rfl rfl rfl (by kernel_rfl) np sf ?_
        refine Pw.takeP 29 (nb 39 1073741823) rfl rfl rfl rfl (by kernel_rfl) np sf ?_
        by_cases h0 : q.2 = 0
        · skip
          refine Pw.re (d := 133) (v' := .bool true) rfl (congrArg Value.bool (decide_eq_true h0)) ?_
          refine Pw.takeP 30 (nb 39 2147483647) rfl rfl rfl rfl (by kernel_rfl) np sf ?_
          refine Pw.takeP 31 (nb 39 4294967295) rfl rfl rfl rfl (by kernel_rfl) np sf ?_
          refine Pw.takeIx 32 (nb 39 8589934591) rfl rfl rfl rfl rfl (by first | assumption | omega) (by first | assumption | omega) rfl rfl (by kernel_rfl) np sf ?_
          refine Pw.takeFS 33 (nb 39 17179869183) rfl rfl rfl rfl rfl rfl rfl rfl (by kernel_rfl) np sf ?_
          refine Pw.takeLF q1 34 (nb 39 34359738367) rfl rfl inferInstance rfl (by first | assumption | (rw [Int.toNat_natCast]; assumption)) rfl rfl rfl rfl (by kernel_rfl) np sf ?_
          refine Pw.takeP 35 (nb 39 68719476735) rfl rfl rfl rfl (by kernel_rfl) np sf ?_
          refine Pw.re (d := 139) (v' := .bool false) rfl (congrArg Value.bool (decide_eq_false (fun c => c (by rw [e4, h0]; exact amOf_zero ..)))) ?_
          refine Pw.takeP 36 (nb 39 137438953471) rfl rfl rfl rfl (by kernel_rfl) np sf ?_
          refine Pw.takeP 37 (nb 39 274877906943) rfl rfl rfl rfl (by kernel_rfl) np sf ?_
          refine Pw.takeP 38 (nb 39 549755813887) rfl rfl rfl rfl (by kernel_rfl) np sf ?_
          refine Pw.done (by kernel_rfl) ?_
          refine Pw.re (d := 142) (v' := .bool false) rfl rfl ?_
          repeat (first | refine Pw.runs ?_ | refine Pw.list (Pw.box rfl rfl rfl rfl (fun _ => ?_)) | refine Pw.list (Pw.alloc rfl rfl rfl rfl rfl (fun _ => ?_)))
          refine Pw.loopJ (σ := Nat) (fun n => 1 ≤ n ∧ n ≤ m + 1) (fun n => ⟨[(4, .pointer (some ⟨g4, 0, none⟩)), (8, .pointer (some ⟨gr, 0, none⟩)), (10, .slice (some pad) P.length cp), (12, .int .i64 i), (13, .int .u64 b), (15, .slice (some qd) Py.length qc), (18, .int .u64 (du + lsum (stk (Py.take (m + 1 + 1))))), (19, .int .i64 ((m + 1 : Nat) : Int)), (20, .int .i64 n), (53, .int .i64 P.length), (54, .int .i64 i), (93, .int .i64 Py.length), (94, .int .i64 ((m + 1 : Nat) : Int))], rwL [(e, bs')], [PS Py (some qd, qc), PS pg (some pd, zc), rwF gr ga left [(e, bs0)], PGS P (some pad, cp), fun W => W.heap[g4]? = some (row (exL x) 25)]⟩) (fun n => m + 1 - n) 1 ⟨Nat.le_refl _, by omega⟩ (Pw.enter ⟨rfl, rfl, rfl, rfl, rfl, rfl, rfl, rfl, rfl, rfl, rfl, rfl, rfl, trivial⟩ (fun w h => allTail h)) ?_
          rintro n ⟨hn1, hn2⟩
          dsimp only at hn1 hn2 ⊢
          repeat (first | refine Pw.runs ?_ | refine Pw.list (Pw.box rfl rfl rfl rfl (fun _ => ?_)) | refine Pw.list (Pw.alloc rfl rfl rfl rfl rfl (fun _ => ?_)))
          refine Pw.condD rfl (fun c6 => ?_) (fun c6 => ?_)
          · obtain ⟨n, rfl⟩ : ∃ n', n = n' + 1 := ⟨n - 1, by omega⟩
            obtain ⟨r, hr, hrm⟩ := get_at (show n < pg.length by omega)
            obtain ⟨r1, hr1⟩ : ∃ r1, Py[n + 1]? = some r1 ∧ r1 = (r.1, amOf b x.com pg r.2) := ⟨_, hok.at hr, rfl⟩
            obtain ⟨hr1, hr1e⟩ := hr1
            have e5 : r1.2 = amOf b x.com pg r.2 := by rw [hr1e]
            repeat (first | refine Pw.runs ?_ | refine Pw.list (Pw.box rfl rfl rfl rfl (fun _ => ?_)) | refine Pw.list (Pw.alloc rfl rfl rfl rfl rfl (fun _ => ?_)))
            refine Pw.drawnG mixed rfl rfl ?_
            refine Pw.takeP 0 (nb 32 1) rfl rfl rfl rfl (by kernel_rfl) np sf ?_
            refine Pw.takeP 1 (nb 32 3) rfl rfl rfl rfl (by kernel_rfl) np sf ?_
            refine Pw.takeIx 2 (nb 32 7) rfl rfl rfl rfl rfl (by first | assumption | omega) (by first | assumption | omega) rfl rfl (by kernel_rfl) np sf ?_
            refine Pw.takeLC (pg, some pd, zc) 3 (nb 32 15) rfl rfl inferInstance rfl (by first | assumption | (rw [Int.toNat_natCast]; assumption)) rfl rfl rfl rfl (by kernel_rfl) np sf ?_
            refine Pw.re (d := 151) (v' := .slice (some pd) pg.length zc) rfl rfl ?_
            refine Pw.takeP 4 (nb 32 31) rfl rfl rfl rfl (by kernel_rfl) np sf ?_
            refine Pw.takeP 5 (nb 32 63) rfl rfl rfl rfl (by kernel_rfl) np sf ?_
            refine Pw.re (d := 153) (v' := .int .i64 (n : Int)) rfl (congrArg (Value.int .i64) (by rw [wi64 (n := ((n + 1 : Nat) : Int) - 1) (by omega) (by omega)]; omega)) ?_
            refine Pw.takeIx 6 (nb 32 127) rfl rfl rfl rfl rfl (by first | assumption | omega) (by first | assumption | omega) rfl rfl (by kernel_rfl) np sf ?_
            refine Pw.takeFS 7 (nb 32 255) rfl rfl rfl rfl rfl rfl rfl rfl (by kernel_rfl) np sf ?_
            refine Pw.takeLF r 8 (nb 32 511) rfl rfl inferInstance rfl (by first | assumption | (rw [Int.toNat_natCast]; assumption)) rfl rfl rfl rfl (by kernel_rfl) np sf ?_
            refine Pw.takeP 9 (nb 32 1023) rfl rfl rfl rfl (by kernel_rfl) np sf ?_
            refine Pw.takeP 10 (nb 32 2047) rfl rfl rfl rfl (by kernel_rfl) np sf ?_
            refine Pw.takeIx 11 (nb 32 4095) rfl rfl rfl rfl rfl (by first | assumption | omega) (by first | assumption | omega) rfl rfl (by kernel_rfl) np sf ?_
            refine Pw.takeLC (pg, some pd, zc) 12 (nb 32 8191) rfl rfl inferInstance rfl (by first | assumption | (rw [Int.toNat_natCast]; assumption)) rfl rfl rfl rfl (by kernel_rfl) np sf ?_
            refine Pw.re (d := 160) (v' := .slice (some pd) pg.length zc) rfl rfl ?_
            refine Pw.takeP 13 (nb 32 16383) rfl rfl rfl rfl (by kernel_rfl) np sf ?_
            refine Pw.takeP 14 (nb 32 32767) rfl rfl rfl rfl (by kernel_rfl) np sf ?_
            refine Pw.re (d := 162) (v' := .int .i64 (m : Int)) rfl (congrArg (Value.int .i64) (by rw [wi64 (n := ((m + 1 : Nat) : Int) - 1) (by omega) (by omega)]; omega)) ?_
            refine Pw.takeIx 15 (nb 32 65535) rfl rfl rfl rfl rfl (by first | assumption | omega) (by first | assumption | omega) rfl rfl (by kernel_rfl) np sf ?_
            refine Pw.takeFS 16 (nb 32 131071) rfl rfl rfl rfl rfl rfl rfl rfl (by kernel_rfl) np sf ?_
            refine Pw.takeLF q 17 (nb 32 262143) rfl rfl inferInstance rfl (by first | assumption | (rw [Int.toNat_natCast]; assumption)) rfl rfl rfl rfl (by kernel_rfl) np sf ?_
            refine Pw.takeP 18 (nb 32 524287) rfl rfl rfl rfl (by kernel_rfl) np sf ?_
            refine Pw.takeP 19 (nb 32 1048575) rfl rfl rfl rfl (by kernel_rfl) np sf ?_
            by_cases hge : q.2 ≤ r.2
            · skip
              refine Pw.re (d := 167) (v' := .bool true) rfl (congrArg Value.bool (decide_eq_true hge)) ?_
              refine Pw.takeP 20 (nb 32 2097151) rfl rfl rfl rfl (by kernel_rfl) np sf ?_
              refine Pw.takeP 21 (nb 32 4194303) rfl rfl rfl rfl (by kernel_rfl) np sf ?_
              refine Pw.takeIx 22 (nb 32 8388607) rfl rfl rfl rfl rfl (by first | assumption | omega) (by first | assumption | omega) rfl rfl (by kernel_rfl) np sf ?_
              refine Pw.takeFS 23 (nb 32 16777215) rfl rfl rfl rfl rfl rfl rfl rfl (by kernel_rfl) np sf ?_
              refine Pw.takeLF r1 24 (nb 32 33554431) rfl rfl inferInstance rfl (by first | assumption | (rw [Int.toNat_natCast]; assumption)) rfl rfl rfl rfl (by kernel_rfl) np sf ?_
              refine Pw.takeP 25 (nb 32 67108863) rfl rfl rfl rfl (by kernel_rfl) np sf ?_
              refine Pw.takeP 26 (nb 32 134217727) rfl rfl rfl rfl (by kernel_rfl) np sf ?_
              refine Pw.takeIx 27 (nb 32 268435455) rfl rfl rfl rfl rfl (by first | assumption | omega) (by first | assumption | omega) rfl rfl (by kernel_rfl) np sf ?_
              refine Pw.takeFS 28 (nb 32 536870911) rfl rfl rfl rfl rfl rfl rfl rfl (by kernel_rfl) np sf ?_
              refine Pw.takeLF q1 29 (nb 32 1073741823) rfl rfl inferInstance rfl (by first | assumption | (rw [Int.toNat_natCast]; assumption)) rfl rfl rfl rfl (by kernel_rfl) np sf ?_
              refine Pw.takeP 30 (nb 32 2147483647) rfl rfl rfl rfl (by kernel_rfl) np sf ?_
              refine Pw.re (d := 178) (v' := .bool false) rfl (congrArg Value.bool (decide_eq_false (Int.not_lt.2 (by rw [e5, e4]; exact amOf_mono hbU hxc.1 hxc.2 hge)))) ?_
              refine Pw.takeP 31 (nb 32 4294967295) rfl rfl rfl rfl (by kernel_rfl) np sf ?_
              refine Pw.done (by kernel_rfl) ?_
              refine Pw.re (d := 179) (v' := .bool false) rfl rfl ?_
              repeat (first | refine Pw.runs ?_ | refine Pw.list (Pw.box rfl rfl rfl rfl (fun _ => ?_)) | refine Pw.list (Pw.alloc rfl rfl rfl rfl rfl (fun _ => ?_)))
              refine Pw.re (d := 20) (v' := .int .i64 (((n + 1) + 1 : Nat) : Int)) rfl (congrArg (Value.int .i64) (i64s (n := 100000) (by omega) (by omega))) ?_
              exact Pw.again (n + 1 + 1) ⟨by omega, by omega⟩ (by show m + 1 - (n + 1 + 1) < m + 1 - (n + 1); omega) ⟨rfl, rfl, rfl, rfl, rfl, rfl, rfl, rfl, rfl, rfl, rfl, rfl, rfl, trivial⟩ rfl (fun w h => h)
            · skip
              refine Pw.re (d := 167) (v' := .bool false) rfl (congrArg Value.bool (decide_eq_false hge)) ?_
              refine Pw.takeO 20 (nb 32 2097151) rfl rfl rfl (by kernel_rfl) np sf ?_
              refine Pw.takeO 21 (nb 32 4194303) rfl rfl rfl (by kernel_rfl) np sf ?_
              refine Pw.takeO 22 (nb 32 8388607) rfl rfl rfl (by kernel_rfl) np sf ?_
              refine Pw.takeO 23 (nb 32 16777215) rfl rfl rfl (by kernel_rfl) np sf ?_
              refine Pw.takeO 24 (nb 32 33554431) rfl rfl rfl (by kernel_rfl) np sf ?_
              refine Pw.takeO 25 (nb 32 67108863) rfl rfl rfl (by kernel_rfl) np sf ?_
              refine Pw.takeO 26 (nb 32 134217727) rfl rfl rfl (by kernel_rfl) np sf ?_
              refine Pw.takeO 27 (nb 32 268435455) rfl rfl rfl (by kernel_rfl) np sf ?_
              refine Pw.takeO 28 (nb 32 536870911) rfl rfl rfl (by kernel_rfl) np sf ?_
              refine Pw.takeO 29 (nb 32 1073741823) rfl rfl rfl (by kernel_rfl) np sf ?_
              refine Pw.takeO 30 (nb 32 2147483647) rfl rfl rfl (by kernel_rfl) np sf ?_
              refine Pw.takeP 31 (nb 32 4294967295) rfl rfl rfl rfl (by kernel_rfl) np sf ?_
              refine Pw.done (by kernel_rfl) ?_
              refine Pw.re (d := 179) (v' := .bool false) rfl rfl ?_
              repeat (first | refine Pw.runs ?_ | refine Pw.list (Pw.box rfl rfl rfl rfl (fun _ => ?_)) | refine Pw.list (Pw.alloc rfl rfl rfl rfl rfl (fun _ => ?_)))
              refine Pw.re (d := 20) (v' := .int .i64 (((n + 1) + 1 : Nat) : Int)) rfl (congrArg (Value.int .i64) (i64s (n := 100000) (by omega) (by omega))) ?_
              exact Pw.again (n + 1 + 1) ⟨by omega, by omega⟩ (by show m + 1 - (n + 1 + 1) < m + 1 - (n + 1); omega) ⟨rfl, rfl, rfl, rfl, rfl, rfl, rfl, rfl, rfl, rfl, rfl, rfl, rfl, trivial⟩ rfl (fun w h => h)
          · repeat (first | refine Pw.runs ?_ | refine Pw.list (Pw.box rfl rfl rfl rfl (fun _ => ?_)) | refine Pw.list (Pw.alloc rfl rfl rfl rfl rfl (fun _ => ?_)))
            refine Pw.re (d := 94) (v' := .int .i64 (((m + 1) + 1 : Nat) : Int)) rfl (congrArg (Value.int .i64) (i64s (n := 100000) (by omega) (by omega))) ?_
            exact Pw.again (m + 1 + 1) (by omega) (by show Py.length - (m + 1 + 1) < Py.length - (m + 1); omega) ⟨rfl, rfl, rfl, rfl, rfl, rfl, rfl, rfl, rfl, rfl, rfl, trivial⟩ rfl (fun w h => h)
        · skip
          refine Pw.re (d := 133) (v' := .bool false) rfl (congrArg Value.bool (decide_eq_false h0)) ?_
          refine Pw.takeO 30 (nb 39 2147483647) rfl rfl rfl (by kernel_rfl) np sf ?_
          refine Pw.takeO 31 (nb 39 4294967295) rfl rfl rfl (by kernel_rfl) np sf ?_
          refine Pw.takeO 32 (nb 39 8589934591) rfl rfl rfl (by kernel_rfl) np sf ?_
          refine Pw.takeO 33 (nb 39 17179869183) rfl rfl rfl (by kernel_rfl) np sf ?_
          refine Pw.takeO 34 (nb 39 34359738367) rfl rfl rfl (by kernel_rfl) np sf ?_
          refine Pw.takeO 35 (nb 39 68719476735) rfl rfl rfl (by kernel_rfl) np sf ?_
          refine Pw.takeP 36 (nb 39 137438953471) rfl rfl rfl rfl (by kernel_rfl) np sf ?_
          refine Pw.takeP 37 (nb 39 274877906943) rfl rfl rfl rfl (by kernel_rfl) np sf ?_
          refine Pw.takeP 38 (nb 39 549755813887) rfl rfl rfl rfl (by kernel_rfl) np sf ?_
          refine Pw.done (by kernel_rfl) ?_
          refine Pw.re (d := 142) (v' := .bool false) rfl rfl ?_
          repeat (first | refine Pw.runs ?_ | refine Pw.list (Pw.box rfl rfl rfl rfl (fun _ => ?_)) | refine Pw.list (Pw.alloc rfl rfl rfl rfl rfl (fun _ => ?_)))
          refine Pw.loopJ (σ := Nat) (fun n => 1 ≤ n ∧ n ≤ m + 1) (fun n => ⟨[(4, .pointer (some ⟨g4, 0, none⟩)), (8, .pointer (some ⟨gr, 0, none⟩)), (10, .slice (some pad) P.length cp), (12, .int .i64 i), (13, .int .u64 b), (15, .slice (some qd) Py.length qc), (18, .int .u64 (du + lsum (stk (Py.take (m + 1 + 1))))), (19, .int .i64 ((m + 1 : Nat) : Int)), (20, .int .i64 n), (53, .int .i64 P.length), (54, .int .i64 i), (93, .int .i64 Py.length), (94, .int .i64 ((m + 1 : Nat) : Int))], rwL [(e, bs')], [PS Py (some qd, qc), PS pg (some pd, zc), rwF gr ga left [(e, bs0)], PGS P (some pad, cp), fun W => W.heap[g4]? = some (row (exL x) 25)]⟩) (fun n => m + 1 - n) 1 ⟨Nat.le_refl _, by omega⟩ (Pw.enter ⟨rfl, rfl, rfl, rfl, rfl, rfl, rfl, rfl, rfl, rfl, rfl, rfl, rfl, trivial⟩ (fun w h => allTail h)) ?_
          rintro n ⟨hn1, hn2⟩
          dsimp only at hn1 hn2 ⊢
          repeat (first | refine Pw.runs ?_ | refine Pw.list (Pw.box rfl rfl rfl rfl (fun _ => ?_)) | refine Pw.list (Pw.alloc rfl rfl rfl rfl rfl (fun _ => ?_)))
          refine Pw.condD rfl (fun c6 => ?_) (fun c6 => ?_)
          · obtain ⟨n, rfl⟩ : ∃ n', n = n' + 1 := ⟨n - 1, by omega⟩
            obtain ⟨r, hr, hrm⟩ := get_at (show n < pg.length by omega)
            obtain ⟨r1, hr1⟩ : ∃ r1, Py[n + 1]? = some r1 ∧ r1 = (r.1, amOf b x.com pg r.2) := ⟨_, hok.at hr, rfl⟩
            obtain ⟨hr1, hr1e⟩ := hr1
            have e5 : r1.2 = amOf b x.com pg r.2 := by rw [hr1e]
            repeat (first | refine Pw.runs ?_ | refine Pw.list (Pw.box rfl rfl rfl rfl (fun _ => ?_)) | refine Pw.list (Pw.alloc rfl rfl rfl rfl rfl (fun _ => ?_)))
            refine Pw.drawnG mixed rfl rfl ?_
            refine Pw.takeP 0 (nb 32 1) rfl rfl rfl rfl (by kernel_rfl) np sf ?_
            refine Pw.takeP 1 (nb 32 3) rfl rfl rfl rfl (by kernel_rfl) np sf ?_
            refine Pw.takeIx 2 (nb 32 7) rfl rfl rfl rfl rfl (by first | assumption | omega) (by first | assumption | omega) rfl rfl (by kernel_rfl) np sf ?_
            refine Pw.takeLC (pg, some pd, zc) 3 (nb 32 15) rfl rfl inferInstance rfl (by first | assumption | (rw [Int.toNat_natCast]; assumption)) rfl rfl rfl rfl (by kernel_rfl) np sf ?_
            refine Pw.re (d := 151) (v' := .slice (some pd) pg.length zc) rfl rfl ?_
            refine Pw.takeP 4 (nb 32 31) rfl rfl rfl rfl (by kernel_rfl) np sf ?_
            refine Pw.takeP 5 (nb 32 63) rfl rfl rfl rfl (by kernel_rfl) np sf ?_
            refine Pw.re (d := 153) (v' := .int .i64 (n : Int)) rfl (congrArg (Value.int .i64) (by rw [wi64 (n := ((n + 1 : Nat) : Int) - 1) (by omega) (by omega)]; omega)) ?_
            refine Pw.takeIx 6 (nb 32 127) rfl rfl rfl rfl rfl (by first | assumption | omega) (by first | assumption | omega) rfl rfl (by kernel_rfl) np sf ?_
            refine Pw.takeFS 7 (nb 32 255) rfl rfl rfl rfl rfl rfl rfl rfl (by kernel_rfl) np sf ?_
            refine Pw.takeLF r 8 (nb 32 511) rfl rfl inferInstance rfl (by first | assumption | (rw [Int.toNat_natCast]; assumption)) rfl rfl rfl rfl (by kernel_rfl) np sf ?_
            refine Pw.takeP 9 (nb 32 1023) rfl rfl rfl rfl (by kernel_rfl) np sf ?_
            refine Pw.takeP 10 (nb 32 2047) rfl rfl rfl rfl (by kernel_rfl) np sf ?_
            refine Pw.takeIx 11 (nb 32 4095) rfl rfl rfl rfl rfl (by first | assumption | omega) (by first | assumption | omega) rfl rfl (by kernel_rfl) np sf ?_
            refine Pw.takeLC (pg, some pd, zc) 12 (nb 32 8191) rfl rfl inferInstance rfl (by first | assumption | (rw [Int.toNat_natCast]; assumption)) rfl rfl rfl rfl (by kernel_rfl) np sf ?_
            refine Pw.re (d := 160) (v' := .slice (some pd) pg.length zc) rfl rfl ?_
            refine Pw.takeP 13 (nb 32 16383) rfl rfl rfl rfl (by kernel_rfl) np sf ?_
            refine Pw.takeP 14 (nb 32 32767) rfl rfl rfl rfl (by kernel_rfl) np sf ?_
            refine Pw.re (d := 162) (v' := .int .i64 (m : Int)) rfl (congrArg (Value.int .i64) (by rw [wi64 (n := ((m + 1 : Nat) : Int) - 1) (by omega) (by omega)]; omega)) ?_
            refine Pw.takeIx 15 (nb 32 65535) rfl rfl rfl rfl rfl (by first | assumption | omega) (by first | assumption | omega) rfl rfl (by kernel_rfl) np sf ?_
            refine Pw.takeFS 16 (nb 32 131071) rfl rfl rfl rfl rfl rfl rfl rfl (by kernel_rfl) np sf ?_
            refine Pw.takeLF q 17 (nb 32 262143) rfl rfl inferInstance rfl (by first | assumption | (rw [Int.toNat_natCast]; assumption)) rfl rfl rfl rfl (by kernel_rfl) np sf ?_
            refine Pw.takeP 18 (nb 32 524287) rfl rfl rfl rfl (by kernel_rfl) np sf ?_
            refine Pw.takeP 19 (nb 32 1048575) rfl rfl rfl rfl (by kernel_rfl) np sf ?_
            by_cases hge : q.2 ≤ r.2
            · skip
              refine Pw.re (d := 167) (v' := .bool true) rfl (congrArg Value.bool (decide_eq_true hge)) ?_
              refine Pw.takeP 20 (nb 32 2097151) rfl rfl rfl rfl (by kernel_rfl) np sf ?_
              refine Pw.takeP 21 (nb 32 4194303) rfl rfl rfl rfl (by kernel_rfl) np sf ?_
              refine Pw.takeIx 22 (nb 32 8388607) rfl rfl rfl rfl rfl (by first | assumption | omega) (by first | assumption | omega) rfl rfl (by kernel_rfl) np sf ?_
              refine Pw.takeFS 23 (nb 32 16777215) rfl rfl rfl rfl rfl rfl rfl rfl (by kernel_rfl) np sf ?_
              refine Pw.takeLF r1 24 (nb 32 33554431) rfl rfl inferInstance rfl (by first | assumption | (rw [Int.toNat_natCast]; assumption)) rfl rfl rfl rfl (by kernel_rfl) np sf ?_
              refine Pw.takeP 25 (nb 32 67108863) rfl rfl rfl rfl (by kernel_rfl) np sf ?_
              refine Pw.takeP 26 (nb 32 134217727) rfl rfl rfl rfl (by kernel_rfl) np sf ?_
              refine Pw.takeIx 27 (nb 32 268435455) rfl rfl rfl rfl rfl (by first | assumption | omega) (by first | assumption | omega) rfl rfl (by kernel_rfl) np sf ?_
              refine Pw.takeFS 28 (nb 32 536870911) rfl rfl rfl rfl rfl rfl rfl rfl (by kernel_rfl) np sf ?_
              refine Pw.takeLF q1 29 (nb 32 1073741823) rfl rfl inferInstance rfl (by first | assumption | (rw [Int.toNat_natCast]; assumption)) rfl rfl rfl rfl (by kernel_rfl) np sf ?_
              refine Pw.takeP 30 (nb 32 2147483647) rfl rfl rfl rfl (by kernel_rfl) np sf ?_
              refine Pw.re (d := 178) (v' := .bool false) rfl (congrArg Value.bool (decide_eq_false (Int.not_lt.2 (by rw [e5, e4]; exact amOf_mono hbU hxc.1 hxc.2 hge)))) ?_
              refine Pw.takeP 31 (nb 32 4294967295) rfl rfl rfl rfl (by kernel_rfl) np sf ?_
              refine Pw.done (by kernel_rfl) ?_
              refine Pw.re (d := 179) (v' := .bool false) rfl rfl ?_
              repeat (first | refine Pw.runs ?_ | refine Pw.list (Pw.box rfl rfl rfl rfl (fun _ => ?_)) | refine Pw.list (Pw.alloc rfl rfl rfl rfl rfl (fun _ => ?_)))
              refine Pw.re (d := 20) (v' := .int .i64 (((n + 1) + 1 : Nat) : Int)) rfl (congrArg (Value.int .i64) (i64s (n := 100000) (by omega) (by omega))) ?_
              exact Pw.again (n + 1 + 1) ⟨by omega, by omega⟩ (by show m + 1 - (n + 1 + 1) < m + 1 - (n + 1); omega) ⟨rfl, rfl, rfl, rfl, rfl, rfl, rfl, rfl, rfl, rfl, rfl, rfl, rfl, trivial⟩ rfl (fun w h => h)
            · skip
              refine Pw.re (d := 167) (v' := .bool false) rfl (congrArg Value.bool (decide_eq_false hge)) ?_
              refine Pw.takeO 20 (nb 32 2097151) rfl rfl rfl (by kernel_rfl) np sf ?_
              refine Pw.takeO 21 (nb 32 4194303) rfl rfl rfl (by kernel_rfl) np sf ?_
              refine Pw.takeO 22 (nb 32 8388607) rfl rfl rfl (by kernel_rfl) np sf ?_
              refine Pw.takeO 23 (nb 32 16777215) rfl rfl rfl (by kernel_rfl) np sf ?_
              refine Pw.takeO 24 (nb 32 33554431) rfl rfl rfl (by kernel_rfl) np sf ?_
              refine Pw.takeO 25 (nb 32 67108863) rfl rfl rfl (by kernel_rfl) np sf ?_
              refine Pw.takeO 26 (nb 32 134217727) rfl rfl rfl (by kernel_rfl) np sf ?_
              refine Pw.takeO 27 (nb 32 268435455) rfl rfl rfl (by kernel_rfl) np sf ?_
              refine Pw.takeO 28 (nb 32 536870911) rfl rfl rfl (by kernel_rfl) np sf ?_
              refine Pw.takeO 29 (nb 32 1073741823) rfl rfl rfl (by kernel_rfl) np sf ?_
              refine Pw.takeO 30 (nb 32 2147483647) rfl rfl rfl (by kernel_rfl) np sf ?_
              refine Pw.takeP 31 (nb 32 4294967295) rfl rfl rfl rfl (by kernel_rfl) np sf ?_
              refine Pw.done (by kernel_rfl) ?_
              refine Pw.re (d := 179) (v' := .bool false) rfl rfl ?_
              repeat (first | refine Pw.runs ?_ | refine Pw.list (Pw.box rfl rfl rfl rfl (fun _ => ?_)) | refine Pw.list (Pw.alloc rfl rfl rfl rfl rfl (fun _ => ?_)))
              refine Pw.re (d := 20) (v' := .int .i64 (((n + 1) + 1 : Nat) : Int)) rfl (congrArg (Value.int .i64) (i64s (n := 100000) (by omega) (by omega))) ?_
              exact Pw.again (n + 1 + 1) ⟨by omega, by omega⟩ (by show m + 1 - (n + 1 + 1) < m + 1 - (n + 1); omega) ⟨rfl, rfl, rfl, rfl, rfl, rfl, rfl, rfl, rfl, rfl, rfl, rfl, rfl, trivial⟩ rfl (fun w h => h)
          · repeat (first | refine Pw.runs ?_ | refine Pw.list (Pw.box rfl rfl rfl rfl (fun _ => ?_)) | refine Pw.list (Pw.alloc rfl rfl rfl rfl rfl (fun _ => ?_)))
            refine Pw.re (d := 94) (v' := .int .i64 (((m + 1) + 1 : Nat) : Int)) rfl (congrArg (Value.int .i64) (i64s (n := 100000) (by omega) (by omega))) ?_
            exact Pw.again (m + 1 + 1) (by omega) (by show Py.length - (m + 1 + 1) < Py.length - (m + 1); omega) ⟨rfl, rfl, rfl, rfl, rfl, rfl, rfl, rfl, rfl, rfl, rfl, trivial⟩ rfl (fun w h => h)
    · obtain rfl : m = Py.length := by omega
      rw [List.take_length, hok.s]
      have h00 : (0 : Int) < ((Py.length : Nat) : Int) := by omega
      have hcl := com_le hbU hxc.1 hxc.2
      repeat (first | refine Pw.runs ?_ | refine Pw.list (Pw.box rfl rfl rfl rfl (fun _ => ?_)) | refine Pw.list (Pw.alloc rfl rfl rfl rfl rfl (fun _ => ?_)))
      refine Pw.re (d := 184) (v' := .bool false) rfl (congrArg Value.bool (decide_eq_false (fun c => c rfl))) ?_
      repeat (first | refine Pw.runs ?_ | refine Pw.list (Pw.box rfl rfl rfl rfl (fun _ => ?_)) | refine Pw.list (Pw.alloc rfl rfl rfl rfl rfl (fun _ => ?_)))
      refine Pw.list (Pw.indexS rfl rfl rfl rfl (Int.le_refl _) h00 rfl rfl ?_)
      refine Pw.list (Pw.fieldS rfl rfl rfl rfl rfl rfl rfl ?_)
      refine Pw.list (Pw.loadF (x.id, comE b x.com) rfl inferInstance rfl hok.at0 rfl rfl rfl rfl ?_)
      repeat (first | refine Pw.runs ?_ | refine Pw.list (Pw.box rfl rfl rfl rfl (fun _ => ?_)) | refine Pw.list (Pw.alloc rfl rfl rfl rfl rfl (fun _ => ?_)))
      refine Pw.re (d := 191) (v' := .bool false) rfl (congrArg Value.bool (decide_eq_false (Int.not_lt.2 hcl.2))) ?_
      repeat (first | refine Pw.runs ?_ | refine Pw.list (Pw.box rfl rfl rfl rfl (fun _ => ?_)) | refine Pw.list (Pw.alloc rfl rfl rfl rfl rfl (fun _ => ?_)))
      refine Pw.re (d := 54) (v' := .int .i64 ((i + 1 : Nat) : Int)) rfl (congrArg (Value.int .i64) (i64s (n := 100000) (by omega) (by omega))) ?_
      exact Pw.again (i + 1, bs') ⟨by omega, hw', hfr'⟩ (by show P.length - (i + 1) < P.length - i; omega) ⟨rfl, rfl, rfl, rfl, rfl, trivial⟩ rfl (fun w h => allCons (hv w h : rwF gr ga left [(e, bs0)] w) (allCons (hv w h : PGS P (some pad, cp) w) (allCons (fx h) allNil)))
  · repeat (first | refine Pw.runs ?_ | refine Pw.list (Pw.box rfl rfl rfl rfl (fun _ => ?_)) | refine Pw.list (Pw.alloc rfl rfl rfl rfl rfl (fun _ => ?_)))
    exact Pw.ret_ (x := ()) (.tmp rfl .nil) rfl trivial (fun w h => by trivial)
end Go.Proofs.Wk
