/- Two authorities together; an authority is known by its contexts. authority.Meet. Of each authority there is the closed one; laws of Meet. Laws 08 with regions told once: codes. AuthorityLattice: the law. Layer 9 and its references: codes. Laws 09: codes. Layer 9: the lowest bit. Layer 9: another holder; the first context. Layer 9: Least, here and in the references. Layer 9: the first minute of a day that some spans have and others have not. slices.Sort at ints, by the kit's contract: what a caller of it knows. Layer 9: the first minute that one authority permits and another one does not: plain laws. Layer 9: contain.minute. Layer 9: contain.minute. DONE. -/
import Derived.Test.YtmcfkmdhjihgmaaDoorPartF
import Derived.Test.YtmcfkmdhjihgmaaDoorPartC
import Derived.Lib.TrailingZeros
import Derived.Test.YtmcfkmdhjihgmaaDoorPartE
import Derived.Shelf.Sort.AssemblyIn
import Derived.Sort.EveryDepth
set_option linter.all false
namespace Go.PE
open Go
/-- what two authorities permit together, before it is closed -/
def midA (a b : Aut) : Aut :=
  ⟨false, if a.holder ≠ noName ∧ b.holder ≠ noName ∧ a.holder ≠ b.holder then 0 else bitsV .and .u64 a.zones b.zones, bitsV .and .u64 a.lines b.lines, bitsV .and .u64 a.days b.days, max a.fr b.fr, min a.to b.to, commonL a.daily b.daily, if b.holder = noName then a.holder else b.holder⟩
def bothA (a b : Aut) : Prop := VA a ∧ VA b ∧ a.none = false ∧ b.none = false
/-- what Meet gives -/
def MeetR (a b r : Aut) : Prop := (¬ bothA a b ∧ r = noneA) ∨ (bothA a b ∧ IsClosed (midA a b) r)
theorem MeetR.uniq {a b r r' : Aut} (h : MeetR a b r) (h' : MeetR a b r') : r = r' := by
  rcases h with ⟨h1, rfl⟩ | ⟨h1, h2⟩
  · rcases h' with ⟨_, rfl⟩ | ⟨h3, _⟩
    · rfl
    · exact absurd h3 h1
  · rcases h' with ⟨h3, _⟩ | ⟨_, h4⟩
    · exact absurd h1 h3
    · exact h2.uniq1 h4
theorem VA.rg {a : Aut} (h : VA a) (hn : a.none = false) : rgA a := by
  rcases h with rfl | ⟨_, h, _⟩
  · cases hn
  · exact h
theorem midA_S {a b : Aut} (ha : isU64 a.days) (hb : isU64 b.days) (m : Int) : (midA a b).S m ↔ a.S m ∧ b.S m := by
  show (max a.fr b.fr ≤ m ∧ m ≤ min a.to b.to ∧ tb (bitsV .and .u64 a.days b.days) (wk m) = true ∧ inS (commonL a.daily b.daily) (m % 1440)) ↔ (a.fr ≤ m ∧ m ≤ a.to ∧ tb a.days (wk m) = true ∧ inS a.daily (m % 1440)) ∧ (b.fr ≤ m ∧ m ≤ b.to ∧ tb b.days (wk m) = true ∧ inS b.daily (m % 1440))
  rw [tb_and ha hb, Bool.and_eq_true, inS_common]
  constructor
  · rintro ⟨h1, h2, ⟨h3, h4⟩, h5, h6⟩
    exact ⟨⟨by omega, by omega, h3, h5⟩, by omega, by omega, h4, h6⟩
  · rintro ⟨⟨h1, h2, h3, h4⟩, h5, h6, h7, h8⟩
    exact ⟨by omega, by omega, ⟨h3, h7⟩, h4, h8⟩
theorem midA_wf {a b : Aut} (ha : rgA a) (hb : rgA b) (hwa : a.wf) (hwb : b.wf) : WfI (midA a b) where
  zu := by
    unfold midA; simp only
    split
    · exact ⟨by omega, by omega⟩
    · exact and_isU64 hwa.zu hwb.zu
  lu := and_isU64 hwa.lu hwb.lu
  du := and_isU64 hwa.du hwb.du
  fb := by
    have h1 := ha.f; have h2 := ha.ft; have h3 := ha.t; have h4 := hb.f; have h5 := hb.ft; have h6 := hb.t
    unfold midA; simp only; omega
  c := canon_common ha.s.1 hb.s.1
  k := fun k hk => ha.s.k k ((inS_common _ _ _).1 hk).1
theorem midA_wfA {a b : Aut} (ha : rgA a) (hb : rgA b) (hwa : a.wf) (hwb : b.wf) : (midA a b).wf := by
  have h := midA_wf ha hb hwa hwb
  refine ⟨h.zu, h.lu, h.du, ?_, ?_, ?_, ?_⟩
  · have := h.fb; exact ⟨by omega, by omega⟩
  · have := h.fb; exact ⟨by omega, by omega⟩
  · unfold midA; simp only
    split
    · exact hwa.h
    · exact hwb.h
  · have := (canon_day h.c h.k).1; omega
/-- Meet gives a valid authority -/
theorem MeetR.ok {a b r : Aut} (h : MeetR a b r) (hwa : a.wf) (hwb : b.wf) : VA r ∧ SmA r := by
  rcases h with ⟨_, rfl⟩ | ⟨⟨h1, h2, h3, h4⟩, h5⟩
  · refine ⟨.inl rfl, ⟨⟨⟨by decide, by decide⟩, ⟨by decide, by decide⟩, ⟨by decide, by decide⟩, ⟨by decide, by decide⟩, ⟨by decide, by decide⟩, by decide, by decide⟩, by decide, by decide, by decide, by decide, by decide⟩⟩
  · have ra := h1.rg h3
    have rb := h2.rg h4
    have hm := midA_wf ra rb hwa hwb
    refine ⟨h5.VA ?_ ⟨hm.fb.1, hm.fb.2.2.2⟩ ?_, h5.wf (midA_wfA ra rb hwa hwb) ⟨hm.fb.1, hm.fb.2.2.2⟩⟩
    · have := tb_le hm.lu (n := 32) (by omega) fun j hj => by
        have hj : tb (bitsV .and .u64 a.lines b.lines) j = true := hj
        rw [tb_and hwa.lu hwb.lu, Bool.and_eq_true] at hj
        apply Classical.byContradiction
        intro hn
        have h7 := ra.l
        rw [tb_hi (n := 32) hwa.lu.1 (by omega) (by omega)] at hj
        cases hj.1
      omega
    · show (if b.holder = noName then a.holder else b.holder) = noName ∨ nameV (if b.holder = noName then a.holder else b.holder) = true
      split
      · exact ra.h
      · exact rb.h
/-- the contexts of Meet are those of both -/
theorem MeetR.inP {a b r : Aut} (h : MeetR a b r) (ha : VA a) (hb : VA b) (hwa : a.wf) (hwb : b.wf) {c : Ctx} (hc : c.valid = true) : inP r c ↔ inP a c ∧ inP b c := by
  rcases h with ⟨h0, rfl⟩ | ⟨⟨_, _, h3, h4⟩, h5⟩
  · constructor
    · intro h; have := h.n; cases this
    · rintro ⟨x, y⟩; exact absurd ⟨ha, hb, x.n, y.n⟩ h0
  · rw [h5.inP_iff hc, midA_S hwa.du hwb.du]
    have hl : (midA a b).lines = bitsV .and .u64 a.lines b.lines := rfl
    have hh : (midA a b).holder = if b.holder = noName then a.holder else b.holder := rfl
    have hz : (midA a b).zones = if a.holder ≠ noName ∧ b.holder ≠ noName ∧ a.holder ≠ b.holder then 0 else bitsV .and .u64 a.zones b.zones := rfl
    rw [hl, hh, hz, tb_and hwa.lu hwb.lu, Bool.and_eq_true]
    constructor
    · rintro ⟨z, ⟨l1, l2⟩, h, s1, s2⟩
      split at z
      · rw [tb_0] at z; cases z
      · rename_i hcf
        rw [tb_and hwa.zu hwb.zu, Bool.and_eq_true] at z
        refine ⟨⟨h3, hc, z.1, l1, ?_, s1⟩, ⟨h4, hc, z.2, l2, ?_, s2⟩⟩
        · by_cases e1 : a.holder = noName
          · exact .inl e1
          · split at h
            · exact h
            · rename_i e2
              have e3 : a.holder = b.holder := Classical.byContradiction fun e3 => hcf ⟨e1, e2, e3⟩
              rw [e3]; exact h
        · split at h
          · rename_i e2; exact .inl e2
          · exact h
    · rintro ⟨x, y⟩
      have hcf : ¬ (a.holder ≠ noName ∧ b.holder ≠ noName ∧ a.holder ≠ b.holder) := by
        rintro ⟨e1, e2, e3⟩
        have h6 := x.h; have h7 := y.h
        simp only [e1, e2, false_or] at h6 h7
        exact e3 (h6.trans h7.symm)
      rw [if_neg hcf, tb_and hwa.zu hwb.zu, Bool.and_eq_true]
      refine ⟨⟨x.z, y.z⟩, ⟨x.l, y.l⟩, ?_, x.S, y.S⟩
      split
      · exact x.h
      · exact y.h
/-! an authority is known by its contexts -/
theorem VA.S_wit {a : Aut} (h : VA a) (hn : a.none = false) : ∃ m, a.S m := by
  rcases h with rfl | ⟨_, _, hc⟩
  · cases hn
  · rcases hc with ⟨_, e⟩ | ⟨_, _, f, t, d, l, hc, _⟩
    · rw [e] at hn; cases hn
    · exact ⟨f, hc.fr.1⟩
def nmA : ByteArray := ⟨#[97]⟩
def nmB : ByteArray := ⟨#[98]⟩
theorem nmA_ok : nameV nmA = true := by decide
theorem nmB_ok : nameV nmB = true := by decide
theorem nmAB : nmA ≠ nmB := by decide
theorem tb_ex {x : Int} (hx : isU64 x) (h : x ≠ 0) : ∃ j, j < 64 ∧ tb x j = true := by
  apply Classical.byContradiction
  intro hn
  apply h
  refine tb_ext hx ⟨by omega, by omega⟩ fun j hj => ?_
  rw [tb_0, Bool.eq_false_iff]
  intro e
  exact hn ⟨j, hj, e⟩
theorem rgA.lt32 {a : Aut} (hg : rgA a) (hu : isU64 a.lines) {j : Nat} (h : tb a.lines j = true) : j < 32 := by
  apply Classical.byContradiction
  intro hn
  have := hg.l
  rw [tb_hi (n := 32) hu.1 (by omega) (by omega)] at h
  cases h
theorem rgA.minute {a : Aut} (hg : rgA a) {m : Int} (h : a.S m) : 0 ≤ m ∧ m ≤ 67108864 := by
  have := hg.f; have := hg.t; have h1 := h.1; have h2 := h.2.1
  omega
/-- a context made of parts -/
theorem mkCtx_inP {a : Aut} (hn : a.none = false) (hg : rgA a) (hwf : a.wf) {z l : Nat} {m : Int} {n : ByteArray} (h1 : z < 64) (h2 : l < 32) (h0 : 0 ≤ m ∧ m ≤ 67108864) (h3 : nameV n = true) :
    (Ctx.mk z l m n).valid = true ∧ (inP a ⟨z, l, m, n⟩ ↔ (tb a.zones z = true ∧ tb a.lines l = true ∧ (a.holder = noName ∨ a.holder = n) ∧ a.S m)) := by
  have hv : (Ctx.mk z l m n).valid = true := (Ctx.valid_iff _).2 ⟨by show (0 : Int) ≤ z; omega, by show (z : Int) ≤ 63; omega, by show (0 : Int) ≤ l; omega, by show (l : Int) ≤ 31; omega, h0.1, h0.2, h3⟩
  refine ⟨hv, fun h => ⟨by simpa using h.z, by simpa using h.l, h.h, h.S⟩, fun ⟨x1, x2, x3, x4⟩ => ⟨hn, hv, by simpa using x1, by simpa using x2, x3, x4⟩⟩
/-- of an authority that is not none there is a context -/
theorem VA.wit {a : Aut} (h : VA a) (hn : a.none = false) (hwf : a.wf) : ∃ (z l : Nat) (m : Int) (n : ByteArray), z < 64 ∧ l < 32 ∧ (0 ≤ m ∧ m ≤ 67108864) ∧ nameV n = true ∧ tb a.zones z = true ∧ tb a.lines l = true ∧ (a.holder = noName ∨ a.holder = n) ∧ a.S m := by
  have hg := h.rg hn
  obtain ⟨m, hm⟩ := h.S_wit hn
  obtain ⟨f1, f2, _⟩ := h.full hn
  obtain ⟨z, hz, hz2⟩ := tb_ex hwf.zu f1
  obtain ⟨l, hl, hl2⟩ := tb_ex hwf.lu f2
  by_cases e : a.holder = noName
  · exact ⟨z, l, m, nmA, hz, hg.lt32 hwf.lu hl2, hg.minute hm, nmA_ok, hz2, hl2, .inl e, hm⟩
  · exact ⟨z, l, m, a.holder, hz, hg.lt32 hwf.lu hl2, hg.minute hm, by rcases hg.h with h | h; exact absurd h e; exact h, hz2, hl2, .inr rfl, hm⟩
theorem VA.ext_none {a b : Aut} (ha : VA a) (hb : VA b) (hwb : b.wf) (h : ∀ c : Ctx, c.valid = true → (PE.inP a c ↔ PE.inP b c)) (hn : a.none = true) : b.none = true := by
  cases hbn : b.none with
  | true => rfl
  | false =>
    obtain ⟨z, l, m, n, h1, h2, h3, h4, h5⟩ := hb.wit hbn hwb
    obtain ⟨hv, hi⟩ := mkCtx_inP hbn (hb.rg hbn) hwb h1 h2 h3 h4
    have := (h _ hv).2 (hi.2 h5)
    have := this.n
    rw [hn] at this; cases this
theorem VA.none_eq {a : Aut} (h : VA a) (hn : a.none = true) : a = noneA := by
  rcases h with h | ⟨h, _⟩
  · exact h
  · rw [hn] at h; cases h
theorem VA.ext {a b : Aut} (ha : VA a) (hb : VA b) (hwa : a.wf) (hwb : b.wf) (h : ∀ c : Ctx, c.valid = true → (PE.inP a c ↔ PE.inP b c)) : a = b := by
  cases han : a.none with
  | true => rw [ha.none_eq han, hb.none_eq (ha.ext_none hb hwb h han)]
  | false =>
    have hbn : b.none = false := by
      cases hbn : b.none with
      | false => rfl
      | true => have := hb.ext_none ha hwa (fun c hc => (h c hc).symm) hbn; rw [han] at this; cases this
    have ga := ha.rg han
    have gb := hb.rg hbn
    obtain ⟨z, l, m, n, h1, h2, h3, h4, h5⟩ := ha.wit han hwa
    -- the parts of contexts
    have key : ∀ {z l : Nat} {m : Int} {n : ByteArray}, z < 64 → l < 32 → (0 ≤ m ∧ m ≤ 67108864) → nameV n = true → ((tb a.zones z = true ∧ tb a.lines l = true ∧ (a.holder = noName ∨ a.holder = n) ∧ a.S m) ↔ (tb b.zones z = true ∧ tb b.lines l = true ∧ (b.holder = noName ∨ b.holder = n) ∧ b.S m)) := fun {z l m n} k1 k2 k3 k4 => by
      obtain ⟨hv, hi⟩ := mkCtx_inP han ga hwa k1 k2 k3 k4
      rw [← hi, h _ hv, (mkCtx_inP hbn gb hwb k1 k2 k3 k4).2]
    have h6 := (key h1 h2 h3 h4).1 h5
    have hz : a.zones = b.zones := tb_ext hwa.zu hwb.zu fun j hj => by
      rw [Bool.eq_iff_iff]
      have := key (z := j) hj h2 h3 h4
      constructor
      · intro e; exact (this.1 ⟨e, h5.2⟩).1
      · intro e; exact (this.2 ⟨e, h6.2⟩).1
    have hl : a.lines = b.lines := tb_ext hwa.lu hwb.lu fun j _ => by
      rw [Bool.eq_iff_iff]
      constructor
      · intro e; exact ((key (l := j) h1 (ga.lt32 hwa.lu e) h3 h4).1 ⟨h5.1, e, h5.2.2⟩).2.1
      · intro e; exact ((key (l := j) h1 (gb.lt32 hwb.lu e) h3 h4).2 ⟨h6.1, e, h6.2.2⟩).2.1
    have hS : ∀ m, a.S m ↔ b.S m := fun m' => by
      constructor
      · intro e; exact ((key h1 h2 (ga.minute e) h4).1 ⟨h5.1, h5.2.1, h5.2.2.1, e⟩).2.2.2
      · intro e; exact ((key h1 h2 (gb.minute e) h4).2 ⟨h6.1, h6.2.1, h6.2.2.1, e⟩).2.2.2
    have hN : ∀ n, nameV n = true → ((a.holder = noName ∨ a.holder = n) ↔ (b.holder = noName ∨ b.holder = n)) := fun n' hn' => by
      have := key h1 h2 h3 hn'
      constructor
      · intro e; exact (this.1 ⟨h5.1, h5.2.1, e, h5.2.2.2⟩).2.2.1
      · intro e; exact (this.2 ⟨h6.1, h6.2.1, e, h6.2.2.2⟩).2.2.1
    have no2 : ∀ {x : ByteArray}, (∀ n, nameV n = true → (x = noName ∨ x = n)) → x = noName := fun {x} hx => by
      rcases hx nmA nmA_ok with e | e
      · exact e
      · rcases hx nmB nmB_ok with e2 | e2
        · exact e2
        · exact absurd (e.symm.trans e2) nmAB
    have hh : a.holder = b.holder := by
      by_cases e1 : a.holder = noName
      · rw [e1]; exact (no2 fun n hn => (hN n hn).1 (.inl e1)).symm
      · have n1 : nameV a.holder = true := by rcases ga.h with h | h; exact absurd h e1; exact h
        rcases (hN _ n1).1 (.inr rfl) with e2 | e2
        · exact absurd (no2 fun n hn => (hN n hn).2 (.inl e2)) e1
        · exact e2.symm
    rcases ha with rfl | ⟨_, _, ca⟩
    · cases han
    rcases hb with rfl | ⟨_, _, cb⟩
    · cases hbn
    exact ca.uniq cb hz hl hh hS
/-- what the authority of a list permits -/
theorem IsOf.inP {l : List Pred} {r : Aut} (h : IsOf l r) (hv : ∀ p ∈ l, p.valid = true) (hw : ∀ p ∈ l, p.wf) {c : Ctx} (hc : c.valid = true) : PE.inP r c ↔ ∀ p ∈ l, rideV p.kind p c = true := by
  obtain ⟨b, hb, hr⟩ := h
  rw [hr.inP_iff hc, hb.exact hv hw hc]
end Go.PE
namespace Go.PE
open Go
/-- what one holder more makes of an authority -/
def holdA (a : Aut) (n : ByteArray) : Aut := { a with zones := if a.holder ≠ noName ∧ a.holder ≠ n then 0 else a.zones, holder := n : Aut }
def RestrHOK (P : Program) (f : Nat) : Prop := ∀ (a : Aut) (n : ByteArray) (H : Nat → Option (List Value)) (nx : Nat),
    PCalls P f [a.v, (Pred.mk 6 0 0 0 n 0).v] H nx (fun _ => False) (fun r H' _ => r = (holdA a n).v ∧ H' = H)
theorem restrH_ok {P : Program} {f tS da co : Nat} (hc : compFn P f = some (73, authority_restrictC tS da co, [.cA 4 8])) : RestrHOK P f := by
  intro a n H nx
  refine PCalls_of hc (by simp) fun hw => ?_
  have a1 : ¬ nx = nx + 1 + 1 := by omega
  have a2 : ¬ nx + 1 = nx + 1 + 1 := by omega
  have a3 : ¬ nx = nx + 1 := by omega
  have a4 : nx ≤ nx + 1 + 1 := by omega
  have a5 : nx ≤ nx + 1 := by omega
  have a6 : ¬ nx + 1 = nx := by omega
  have a7 : ¬ nx + 1 + 1 = nx := by omega
  have en : ∀ {z : Int} {H2 : Nat → Option (List Value)} {n2 : Nat}, z = (if a.holder ≠ noName ∧ a.holder ≠ n then 0 else a.zones) → Own nx H H2 → wF (some [ag ({ a with zones := z, holder := n : Aut }).cells]) nx (fun r H' _ => r = (holdA a n).v ∧ H' = H) H2 n2 := fun {z H2 n2} hz ho => wF_own hw ho ⟨by rw [hz]; rfl, rfl⟩
  obtain ⟨p, hp⟩ : ∃ p : Pred, p = Pred.mk 6 0 0 0 n 0 := ⟨_, rfl⟩
  have h6 : p.kind = 6 := by rw [hp]
  have hnm : p.name = n := by rw [hp]
  rw [← hp]
  by_cases g1 : a.holder = noName
  · have g1'' : a.holder.toList = [] := (noName_iff _).2 g1
    have g1' : a.holder.toList.isEmpty = true := by rw [g1'']; rfl
    simp [authority_restrictC, a1, a2, a3, a4, a5, a6, a7, h6, hnm, g1', g1'', Aut.ag]
    exact en (z := a.zones) (by rw [if_neg (by simp [g1])]) (by simp [a4, a5])
  · have g1'' : ¬ a.holder.toList = [] := fun e => g1 ((noName_iff _).1 e)
    have g1' : a.holder.toList.isEmpty = false := by simpa using g1''
    by_cases g2 : a.holder = n
    · simp [authority_restrictC, a1, a2, a3, a4, a5, a6, a7, h6, hnm, g1', g1'', show (a.holder == n) = true by simp [g2], Aut.ag]
      exact en (z := a.zones) (by rw [if_neg (by simp [g2])]) (by simp [a4, a5])
    · have g2' : (a.holder == n) = false := by simpa using g2
      simp [authority_restrictC, a1, a2, a3, a4, a5, a6, a7, h6, hnm, g1', g1'', g2', Aut.ag]
      exact en (z := 0) (by rw [if_pos ⟨g1, g2⟩]) (by simp [a4, a5])
section
variable {P : Program} {co re cl tS : Nat} (hco : CommonOK P co tS) (hre : RestrHOK P re) (hcl : ClosedOK P cl)
include hco hre hcl
theorem am_j1 {a b a1 : Aut} {nx : Nat} {H : Nat → Option (List Value)} {c : List Value} {s : PS} (hw : ∀ k, nx ≤ k → H k = none) (hal : a1.daily.length ≤ 1000000) (hbl : b.daily.length ≤ 1000000)
    (hm : { (if b.holder = noName then { a1 with daily := commonL a1.daily b.daily : Aut } else holdA { a1 with daily := commonL a1.daily b.daily : Aut } b.holder) with none := false : Aut } = midA a b) (hno : a1.none = false) (hwf : WfI (midA a b)) (hB : bothA a b)
    (e2 : s.t 2 = ptr nx 0) (e3 : s.t 3 = ptr (nx + 1) 0) (e4 : s.t 4 = ptr (nx + 1 + 1) 0) (h0 : s.H nx = some a1.cells) (h1 : s.H (nx + 1) = some b.cells) (h2 : s.H (nx + 1 + 1) = some c) (hcl8 : c.length = 8) (hown : Own nx H s.H) (hn : nx + 1 + 1 < s.nx) :
    wpc (PCalls P) P (fun _ => False) nx (authority_MeetC_j1 co re cl) (fin nx [RV.cA 4 8] fun r H' _ => (∃ r', r = r'.v ∧ MeetR a b r') ∧ H' = H) s := by
  obtain ⟨T, H', nx'⟩ := s
  simp only at e2 e3 e4 h0 h1 h2 hown hn
  have b1 : ¬ nx = nx + 1 + 1 := by omega
  have b2 : ¬ nx + 1 = nx + 1 + 1 := by omega
  have b3 : ¬ nx = nx + 1 := by omega
  have b4 : nx ≤ nx + 1 + 1 := by omega
  have b5 : nx ≤ nx + 1 := by omega
  have b6 : ¬ nx + 1 = nx := by omega
  have b7 : ¬ nx + 1 + 1 = nx := by omega
  have b8 : ¬ nx + 1 + 1 = nx + 1 := by omega
  have en : ∀ {H2 : Nat → Option (List Value)} {n2 : Nat} {r' : Aut}, IsClosed (midA a b) r' → Own nx H H2 → wF (some [ag r'.cells]) nx (fun r H' _ => (∃ r', r = r'.v ∧ MeetR a b r') ∧ H' = H) H2 n2 := fun {H2 n2 r'} hr ho => wF_own hw ho ⟨⟨r', rfl, .inr ⟨hB, hr⟩⟩, rfl⟩
  simp [authority_MeetC_j1, e2, e3, h0, h1]
  refine wCall_eq (Q := fun r => r = lin tS ((commonL a1.daily b.daily).map Spn.v)) (hco a1.daily b.daily hal hbl _ _) fun r n1 hr hn1 => ?_
  subst hr
  simp at hn1
  simp [e2, e3, h0, h1, b1, b2, b3, b4, b5, b6, b7, b8]
  refine sts_of (k := nx) (off := 6) (e := tS) (xs := (commonL a1.daily b.daily).map Spn.v) (row := a1.cells) (by simp) (by simp [h0]) (by simp) (.inr (by omega)) (by simp) ?_
  by_cases g1 : b.holder = noName
  · have g1'' : b.holder.toList = [] := (noName_iff _).2 g1
    have g1' : b.holder.toList.isEmpty = true := by rw [g1'']; rfl
    rw [if_pos g1] at hm
    have hm2 : ({ a1 with daily := commonL a1.daily b.daily : Aut } : Aut) = midA a b := by rw [← hm]; simp [hno]
    simp [e2, e3, e4, h0, h1, h2, b1, b2, b3, b4, b5, b6, b7, b8, g1', g1'', Aut.set6, Aut.set6l, Aut.ag, hm2]
    refine wCall_eq (Q := fun r => ∃ r', r = r'.v ∧ IsClosed (midA a b) r') (hcl (midA a b) hwf _ _) fun r n2 hr hn2 => ?_
    obtain ⟨r', rfl, hr'⟩ := hr
    simp [e4, h2, hcl8, b1, b2, b3, b4, b5, b6, b7, b8]
    rw [List.drop_of_length_le (show c.length ≤ 8 by omega)]
    exact en hr' (by simp [hown, b4])
  · have g1'' : ¬ b.holder.toList = [] := fun e => g1 ((noName_iff _).1 e)
    have g1' : b.holder.toList.isEmpty = false := by simpa using g1''
    rw [if_neg g1] at hm
    have hm2 : holdA { a1 with daily := commonL a1.daily b.daily : Aut } b.holder = midA a b := by rw [← hm]; simp [holdA, hno]
    simp [e2, e3, e4, h0, h1, h2, b1, b2, b3, b4, b5, b6, b7, b8, g1', g1'', Aut.set6, Aut.set6l, Aut.ag]
    refine wCall_eq (Q := fun r => r = (midA a b).v) (by rw [← hm2]; exact hre _ _ _ _) fun r n2 hr hn2 => ?_
    subst hr
    simp [e2, e3, e4, h0, h1, h2, b1, b2, b3, b4, b5, b6, b7, b8, Aut.ag]
    refine wCall_eq (Q := fun r => ∃ r', r = r'.v ∧ IsClosed (midA a b) r') (hcl (midA a b) hwf _ _) fun r n3 hr hn3 => ?_
    obtain ⟨r', rfl, hr'⟩ := hr
    simp [e4, h2, hcl8, b1, b2, b3, b4, b5, b6, b7, b8]
    rw [List.drop_of_length_le (show c.length ≤ 8 by omega)]
    exact en hr' (by simp [hown, b4])
end
def AMeetOK (P : Program) (f g : Nat) : Prop := ∀ (a b : Aut), a.wf → b.wf → ∀ (H : Nat → Option (List Value)) (nx : Nat), H g = some bitsRow → g < nx → PCalls P f [a.v, b.v] H nx (fun _ => False) (fun r H' _ => (∃ r', r = r'.v ∧ MeetR a b r') ∧ H' = H)
theorem ameet_ok {P : Program} {f g tS va no co re cl : Nat} (hc : compFn P f = some (68, authority_MeetC tS va no co re cl, [.cA 4 8])) (hva : AValOK P va g) (hno : NoneOK P no) (hco : CommonOK P co tS) (hre : RestrHOK P re) (hcl : ClosedOK P cl) : AMeetOK P f g := by
  intro a b hwa hwb H nx hg hgn
  refine PCalls_of hc (by simp) fun hw => ?_
  have b1 : ¬ nx = nx + 1 + 1 := by omega
  have b2 : ¬ nx + 1 = nx + 1 + 1 := by omega
  have b3 : ¬ nx = nx + 1 := by omega
  have b4 : nx ≤ nx + 1 + 1 := by omega
  have b5 : nx ≤ nx + 1 := by omega
  have b6 : ¬ nx + 1 = nx := by omega
  have b7 : ¬ nx + 1 + 1 = nx := by omega
  have b8 : ¬ nx + 1 + 1 = nx + 1 := by omega
  have g1 : ¬ g = nx := by omega
  have g2 : ¬ g = nx + 1 := by omega
  have g3 : ¬ g = nx + 1 + 1 := by omega
  have no : ∀ {s : PS} {d : Option Nat} {K : PS → Prop}, (∀ n, K ⟨(s.putO d noneA.v).t, s.H, n⟩) → wCall (PCalls P) (fun _ => False) nx no [] d s K := by
    intro s d K hK
    refine wCall_eq (Q := fun r => r = noneA.v) (hno _ _) fun r n1 hr hn1 => ?_
    subst hr
    exact hK n1
  have bad : ∀ {H2 : Nat → Option (List Value)} {n2 : Nat}, ¬ bothA a b → Own nx H H2 → wF (some [ag noneA.cells]) nx (fun r H' _ => (∃ r', r = r'.v ∧ MeetR a b r') ∧ H' = H) H2 n2 := fun {H2 n2} hr ho => wF_own hw ho ⟨⟨noneA, rfl, .inl ⟨hr, rfl⟩⟩, rfl⟩
  have nov : ∀ a : Aut, okA a = false → ¬ VA a := fun a h hV => by rw [(okA_iff a).2 hV] at h; cases h
  simp [authority_MeetC, b1, b2, b3, b4, b5, b6, b7, b8, Aut.ag]
  refine wCall_eq (Q := fun r => r = .bool (okA a)) (hva a hwa _ _ (by simp [g1, g2, g3, hg]) (by show g < nx + 1 + 1 + 1; omega)) fun r n1 hr hn1 => ?_
  subst hr
  simp at hn1
  cases ho : okA a with
  | false =>
    simp
    refine no fun n => ?_
    simp [b1, b2, b3, b4, b5, b6, b7, b8]
    exact bad (fun h => nov a ho h.1) (by simp [b4, b5])
  | true =>
  simp [b1, b2, b3, b4, b5, b6, b7, b8, Aut.ag]
  refine wCall_eq (Q := fun r => r = .bool (okA b)) (hva b hwb _ _ (by simp [g1, g2, g3, hg]) (by show g < n1; omega)) fun r n2 hr hn2 => ?_
  subst hr
  simp at hn2
  cases ho2 : okA b with
  | false =>
    simp
    refine no fun n => ?_
    simp [b1, b2, b3, b4, b5, b6, b7, b8]
    exact bad (fun h => nov b ho2 h.2.1) (by simp [b4, b5])
  | true =>
  cases hn : a.none with
  | true =>
    simp [b1, b2, b3, b4, b5, b6, b7, b8, hn]
    refine no fun n => ?_
    simp [b1, b2, b3, b4, b5, b6, b7, b8]
    exact bad (fun h => by have := h.2.2.1; rw [hn] at this; cases this) (by simp [b4, b5])
  | false =>
  cases hn2' : b.none with
  | true =>
    simp [b1, b2, b3, b4, b5, b6, b7, b8, hn, hn2']
    refine no fun n => ?_
    simp [b1, b2, b3, b4, b5, b6, b7, b8]
    exact bad (fun h => by have := h.2.2.2; rw [hn2'] at this; cases this) (by simp [b4, b5])
  | false =>
  have hB : bothA a b := ⟨(okA_iff a).1 ho, (okA_iff b).1 ho2, hn, hn2'⟩
  have hmw := midA_wf (hB.1.rg hn) (hB.2.1.rg hn2') hwa hwb
  have hm1 : ∀ u v : Int, (if u < v then v else u) = max u v := fun u v => by split <;> omega
  have hm2 : ∀ u v : Int, (if v < u then v else u) = min u v := fun u v => by split <;> omega
  simp [authority_MeetC_j2, authority_MeetC_j3, b1, b2, b3, b4, b5, b6, b7, b8, hn, hn2', hm1, hm2]
  have en : ∀ {T : Nat → Value} {H2 : Nat → Option (List Value)}, T 2 = ptr nx 0 → T 3 = ptr (nx + 1) 0 → T 4 = ptr (nx + 1 + 1) 0 → H2 nx = some ({ a with zones := bitsV .and .u64 a.zones b.zones, lines := bitsV .and .u64 a.lines b.lines, days := bitsV .and .u64 a.days b.days, fr := max a.fr b.fr, to := min a.to b.to : Aut }).cells → H2 (nx + 1) = some b.cells → H2 (nx + 1 + 1) = some [.bool false, .int .u64 0, .int .u64 0, .int .u64 0, .int .i64 0, .int .i64 0, lin tS [], .string noName] → Own nx H H2 →
      wpc (PCalls P) P (fun _ => False) nx (authority_MeetC_j1 co re cl) (fin nx [RV.cA 4 8] fun r H' _ => (∃ r', r = r'.v ∧ MeetR a b r') ∧ H' = H) ⟨T, H2, n2⟩ := by
    intro T H2 f2 f3 f4 h0 h1 h2 hown
    refine am_j1 (a1 := { a with zones := bitsV .and .u64 a.zones b.zones, lines := bitsV .and .u64 a.lines b.lines, days := bitsV .and .u64 a.days b.days, fr := max a.fr b.fr, to := min a.to b.to : Aut }) hco hre hcl hw hwa.n hwb.n ?_ ?_ hmw hB f2 f3 f4 h0 h1 h2 rfl hown (by show nx + 1 + 1 < n2; omega)
    · by_cases e : b.holder = noName
      · simp [e, midA, hn]
      · simp [e, midA, hn, holdA]
    · exact hn
  repeat' first
    | refine And.intro ?_ ?_
    | (refine en (by simp) (by simp) (by simp) ?_ ?_ ?_ ?_
       · simp [b1, b3]; rfl
       · simp [b2, b6]
       · simp [b7, b8]; rfl
       · simp [b4, b5])
    | fail "stuck"
end Go.PE
namespace Go.PE
open Go
theorem ex_min {S : Int → Prop} (h0 : ∀ m, S m → 0 ≤ m) : ∀ (n : Nat) (m : Int), S m → m ≤ n → ∃ f, S f ∧ ∀ k, S k → f ≤ k
  | 0, m, h, hm => ⟨m, h, fun k hk => by have := h0 k hk; omega⟩
  | n + 1, m, h, hm => by
    by_cases e : ∃ k, S k ∧ k < m
    · obtain ⟨k, hk, hlt⟩ := e
      exact ex_min h0 n k hk (by omega)
    · exact ⟨m, h, fun k hk => Int.not_lt.1 fun hlt => e ⟨k, hk, hlt⟩⟩
theorem ex_max {S : Int → Prop} {B : Int} (h0 : ∀ m, S m → m ≤ B) : ∀ (n : Nat) (m : Int), S m → B - m ≤ n → ∃ f, S f ∧ ∀ k, S k → k ≤ f
  | 0, m, h, hm => ⟨m, h, fun k hk => by have := h0 k hk; omega⟩
  | n + 1, m, h, hm => by
    by_cases e : ∃ k, S k ∧ m < k
    · obtain ⟨k, hk, hlt⟩ := e
      exact ex_max h0 n k hk (by omega)
    · exact ⟨m, h, fun k hk => Int.not_lt.1 fun hlt => e ⟨k, hk, hlt⟩⟩
theorem ex_mask (Q : Nat → Prop) : ∀ n : Nat, n ≤ 64 → ∃ d : Int, isU64 d ∧ ∀ j, tb d j = true ↔ j < n ∧ Q j
  | 0, _ => ⟨0, ⟨by omega, by omega⟩, fun j => by rw [tb_0]; simp⟩
  | n + 1, hn => by
    obtain ⟨d, hd, h⟩ := ex_mask Q n (by omega)
    by_cases hQ : Q n
    · have hp : isU64 ((2 : Int) ^ n) := by
        have h1 : (2 : Nat) ^ n < 2 ^ 64 := Nat.pow_lt_pow_right (by omega) (by omega)
        have h2 : ((2 : Int) ^ n) = ((2 ^ n : Nat) : Int) := by simp
        rw [h2]
        clear h2
        generalize (2 : Nat) ^ n = x at h1 ⊢
        exact ⟨by omega, by omega⟩
      refine ⟨bitsV .or .u64 d (2 ^ n), or_isU64 hd hp, fun j => ?_⟩
      rw [tb_or hd hp, Bool.or_eq_true, h, tb_pow, decide_eq_true_eq]
      constructor
      · rintro (⟨h1, h2⟩ | rfl)
        · exact ⟨by omega, h2⟩
        · exact ⟨by omega, hQ⟩
      · rintro ⟨h1, h2⟩
        by_cases e : n = j
        · exact .inr e
        · exact .inl ⟨by omega, h2⟩
    · refine ⟨d, hd, fun j => ?_⟩
      rw [h]
      constructor
      · rintro ⟨h1, h2⟩; exact ⟨by omega, h2⟩
      · rintro ⟨h1, h2⟩
        refine ⟨?_, h2⟩
        by_cases e : j = n
        · subst e; exact absurd h2 hQ
        · omega
theorem Clo.ex {S : Int → Prop} {B : Nat} (h0 : ∀ m, S m → 0 ≤ m ∧ m ≤ B) {m : Int} (hm : S m) : ∃ f t d l, Clo S f t d l := by
  obtain ⟨f, hf⟩ := ex_min (fun m h => (h0 m h).1) B m hm (h0 m hm).2
  obtain ⟨t, ht⟩ := ex_max (fun m h => (h0 m h).2) B m hm (by have := (h0 m hm).1; omega)
  obtain ⟨d, hd, hd2⟩ := ex_mask (fun j => ∃ m, S m ∧ wk m = j) 7 (by omega)
  obtain ⟨l, hl⟩ := Run.ex (fun k => ∃ m, S m ∧ m % 1440 = k) 1440
  refine ⟨f, t, d, l, hf, ht, hd, fun j => ?_, hl.c, fun k => ?_⟩
  · rw [hd2]
    constructor
    · exact fun h => h.2
    · rintro ⟨m, h1, rfl⟩
      exact ⟨by unfold wk; omega, m, h1, rfl⟩
  · rw [hl.s]
    constructor
    · exact fun h => h.1
    · rintro ⟨m, h1, rfl⟩
      exact ⟨⟨m, h1, rfl⟩, by omega, by omega⟩
theorem IsClosed.ex (a : Aut) (h0 : 0 ≤ a.fr) (h1 : a.to ≤ 67108864) : ∃ r, IsClosed a r := by
  by_cases hz : a.zones = 0
  · exact ⟨_, .inl ⟨.inl hz, rfl⟩⟩
  by_cases hl : a.lines = 0
  · exact ⟨_, .inl ⟨.inr (.inl hl), rfl⟩⟩
  by_cases hS : ∀ m, ¬ a.S m
  · exact ⟨_, .inl ⟨.inr (.inr hS), rfl⟩⟩
  · obtain ⟨m, hm⟩ := Classical.not_forall.1 hS
    obtain ⟨f, t, d, l, h⟩ := Clo.ex (S := a.S) (B := 67108864) (fun m h => ⟨Int.le_trans h0 h.1, Int.le_trans h.2.1 h1⟩) (Classical.not_not.1 hm)
    exact ⟨_, .inr ⟨hz, hl, f, t, d, l, h, rfl⟩⟩
theorem MeetR.ex (a b : Aut) : ∃ r, MeetR a b r := by
  by_cases h : bothA a b
  · have ga := h.1.rg h.2.2.1
    have gb := h.2.1.rg h.2.2.2
    have h1 := ga.f; have h2 := ga.t; have h3 := gb.f; have h4 := gb.t
    obtain ⟨r, hr⟩ := IsClosed.ex (midA a b) (by show 0 ≤ max a.fr b.fr; omega) (by show min a.to b.to ≤ 67108864; omega)
    exact ⟨r, .inr ⟨h, hr⟩⟩
  · exact ⟨_, .inl ⟨h, rfl⟩⟩
/-- valid, and small -/
def Vw (a : Aut) : Prop := VA a ∧ SmA a
theorem MeetR.vw {a b r : Aut} (h : MeetR a b r) (ha : a.wf) (hb : b.wf) : Vw r := h.ok ha hb
theorem Vw.wf {a : Aut} (h : Vw a) : a.wf := h.2.1
theorem MeetR.known {a b u v : Aut} (h : MeetR a b u) (ha : Vw a) (hb : Vw b) (hv : Vw v) (hi : ∀ c : Ctx, c.valid = true → (PE.inP v c ↔ PE.inP a c ∧ PE.inP b c)) : u = v :=
  VA.ext (h.vw ha.wf hb.wf).1 hv.1 (h.vw ha.wf hb.wf).wf hv.wf fun c hc => by rw [h.inP ha.1 hb.1 ha.wf hb.wf hc, hi c hc]
theorem fullA_inP {c : Ctx} (hc : c.valid = true) : PE.inP fullA c := by
  have h : IsOf [] fullA := by
    obtain ⟨r, hr⟩ := IsClosed.ex fullA (by decide) (by decide)
    have h1 := fullA_ok.1
    rcases h1 with h1 | ⟨_, _, h1⟩
    · exact absurd (congrArg Aut.none h1) (by decide)
    · exact ⟨fullA, OfI.nil, h1⟩
  exact (h.inP (by simp) (by simp) hc).2 (by simp)
theorem MeetR.full {a u : Aut} (h : MeetR a fullA u) (ha : Vw a) : u = a := h.known ha fullA_ok ha fun c hc => ⟨fun h => ⟨h, fullA_inP hc⟩, fun h => h.1⟩
theorem AMeetOK.eq {P : Program} {f g : Nat} (h : AMeetOK P f g) {a b u : Aut} (ha : a.wf) (hb : b.wf) (hu : MeetR a b u) {H : Nat → Option (List Value)} {nx : Nat} (hg : H g = some bitsRow) (hgn : g < nx) :
    PCalls P f [a.v, b.v] H nx (fun _ => False) (fun r H' _ => r = u.v ∧ H' = H) :=
  (h a b ha hb H nx hg hgn).mono fun p H' nx' ⟨⟨r', h1, h2⟩, h3⟩ => ⟨by rw [h1, h2.uniq hu], h3⟩
end Go.PE
namespace Go.PE
open Go
end Go.PE
namespace Go.PE
open Go
theorem Vw.n {a : Aut} (h : Vw a) : a.daily.length ≤ maxLen := by
  have hmx : (maxLen : Int) = 9223372036854775807 := rfl
  have := h.wf.n
  omega
end Go.PE
namespace Go.PE
open Go
def law09_awake_BC_j1 (f_authority_Full : Nat) (f_contain_Within : Nat) : PC :=
 (.seq (.mon [(some 17, none, .mv (.tmp 4)), (some 18, none, .mv (.tmp 17)), (some 19, some (18, true), .ldA 4 (.tmp 3)), (some 20, some (18, true), .build [(.inl [(.int .i64 0)]), (.inl [(.int .i64 0)]), (.inl [(.int .i64 0)]), (.inr ((.const (.string ⟨#[98]⟩)), 1))]), (some 21, some (18, true), .eqA false [(.int .i64), (.int .i64), (.int .i64), .string] (.tmp 19) (.tmp 20)), (some 22, none, .pick (.tmp 18) (.tmp 21) (.const (.bool false))), (some 23, none, .mv (.tmp 22)), (some 24, some (23, true), .ldA 8 (.tmp 1)), (some 25, some (23, true), .call f_authority_Full []), (some 26, some (23, true), .call f_contain_Within [(.tmp 24), (.tmp 25)]), (some 27, none, .pick (.tmp 23) (.tmp 26) (.const (.bool false))), (some 0, none, .mv (.tmp 27))]) .ret)
def law09_awake_BC (t_api_Predicate : Nat) (f_authority_Of : Nat) (t_api_Span : Nat) (f_authority_Full : Nat) (f_contain_Witness : Nat) (f_contain_Within : Nat) : PC :=
 (.seq (.reg [(some 0, none, .mv (.const (.bool false)))]) (.seq (.reg [(some 6, none, .build [(.inr ((.const (.int .i64 6)), 1)), (.inl [(.int .u64 0)]), (.inl [(.int .i64 0)]), (.inl [(.int .i64 0)]), (.inr ((.const (.string ⟨#[97]⟩)), 1)), (.inl [(.int .i64 0)])]), (some 7, none, .mks t_api_Predicate 6 false [(.tmp 6)]), (some 8, none, .call f_authority_Of [(.tmp 7)]), (some 5, none, .steal 8), (some 9, none, .extr 5 0), (some 10, none, .extr 5 1), (some 1, none, .alloc [(.bool false), (.int .u64 0), (.int .u64 0), (.int .u64 0), (.int .i64 0), (.int .i64 0), (lin t_api_Span []), (.string ⟨#[]⟩)]), (none, none, .st 8 (.tmp 1) (.tmp 9)), (some 2, none, .mv (.tmp 10))]) (.seq (.ord (.alt (.one (some 12, none, .call f_authority_Full []) (.alt (.one (some 13, none, .ldA 8 (.tmp 1)) (.alt (.one (some 14, none, .call f_contain_Witness [(.tmp 12), (.tmp 13)]) (.one (some 11, none, .steal 14) (.alt (.one (some 15, none, .extr 11 0) (.one (some 16, none, .extr 11 1) (.one (some 3, none, .alloc [(.int .i64 0), (.int .i64 0), (.int .i64 0), (.string ⟨#[]⟩)]) (.one (none, none, .st 4 (.tmp 3) (.tmp 15)) (.one (some 4, none, .mv (.tmp 16)) .done))))) (.alt (.one (some 16, none, .extr 11 1) (.one (some 15, none, .extr 11 0) (.one (some 3, none, .alloc [(.int .i64 0), (.int .i64 0), (.int .i64 0), (.string ⟨#[]⟩)]) (.one (none, none, .st 4 (.tmp 3) (.tmp 15)) (.one (some 4, none, .mv (.tmp 16)) .done))))) (.one (some 3, none, .alloc [(.int .i64 0), (.int .i64 0), (.int .i64 0),
 (.string ⟨#[]⟩)]) (.alt (.one (some 15, none, .extr 11 0) (.one (some 16, none, .extr 11 1) (.one (none, none, .st 4 (.tmp 3) (.tmp 15)) (.one (some 4, none, .mv (.tmp 16)) .done)))) (.one (some 16, none, .extr 11 1) (.one (some 15, none, .extr 11 0) (.one (none, none, .st 4 (.tmp 3) (.tmp 15)) (.one (some 4, none, .mv (.tmp 16)) .done)))))))))) (.one (some 3, none, .alloc [(.int .i64 0), (.int .i64 0), (.int .i64 0), (.string ⟨#[]⟩)]) (.one (some 14, none, .call f_contain_Witness [(.tmp 12), (.tmp 13)]) (.one (some 11, none, .steal 14) (.alt (.one (some 15, none, .extr 11 0) (.one (some 16, none, .extr 11 1) (.one (none, none, .st 4 (.tmp 3) (.tmp 15)) (.one (some 4, none, .mv (.tmp 16)) .done)))) (.one (some 16, none, .extr 11 1) (.one (some 15, none, .extr 11 0) (.one (none, none, .st 4 (.tmp 3) (.tmp 15)) (.one (some 4, none, .mv (.tmp 16)) .done)))))))))) (.one (some 3, none, .alloc [(.int .i64 0), (.int .i64 0), (.int .i64 0), (.string ⟨#[]⟩)]) (.one (some 13, none, .ldA 8 (.tmp 1)) (.one (some 14, none, .call f_contain_Witness [(.tmp 12), (.tmp 13)]) (.one (some 11, none, .steal 14) (.alt (.one (some 15, none, .extr 11 0) (.one (some 16, none, .extr 11 1) (.one (none, none, .st 4 (.tmp 3) (.tmp 15)) (.one (some 4, none, .mv (.tmp 16)) .done)))) (.one (some 16, none, .extr 11 1) (.one (some 15, none, .extr 11 0) (.one (none, none, .st 4 (.tmp 3) (.tmp 15)) (.one (some 4, none, .mv (.tmp 16)) .done))))))))))) (.alt (.one (some 13, none, .ldA 8 (.tmp 1))
 (.alt (.one (some 12, none, .call f_authority_Full []) (.alt (.one (some 14, none, .call f_contain_Witness [(.tmp 12), (.tmp 13)]) (.one (some 11, none, .steal 14) (.alt (.one (some 15, none, .extr 11 0) (.one (some 16, none, .extr 11 1) (.one (some 3, none, .alloc [(.int .i64 0), (.int .i64 0), (.int .i64 0), (.string ⟨#[]⟩)]) (.one (none, none, .st 4 (.tmp 3) (.tmp 15)) (.one (some 4, none, .mv (.tmp 16)) .done))))) (.alt (.one (some 16, none, .extr 11 1) (.one (some 15, none, .extr 11 0) (.one (some 3, none, .alloc [(.int .i64 0), (.int .i64 0), (.int .i64 0), (.string ⟨#[]⟩)]) (.one (none, none, .st 4 (.tmp 3) (.tmp 15)) (.one (some 4, none, .mv (.tmp 16)) .done))))) (.one (some 3, none, .alloc [(.int .i64 0), (.int .i64 0), (.int .i64 0), (.string ⟨#[]⟩)]) (.alt (.one (some 15, none, .extr 11 0) (.one (some 16, none, .extr 11 1) (.one (none, none, .st 4 (.tmp 3) (.tmp 15)) (.one (some 4, none, .mv (.tmp 16)) .done)))) (.one (some 16, none, .extr 11 1) (.one (some 15, none, .extr 11 0) (.one (none, none, .st 4 (.tmp 3) (.tmp 15)) (.one (some 4, none, .mv (.tmp 16)) .done)))))))))) (.one (some 3, none, .alloc [(.int .i64 0), (.int .i64 0), (.int .i64 0), (.string ⟨#[]⟩)]) (.one (some 14, none, .call f_contain_Witness [(.tmp 12), (.tmp 13)]) (.one (some 11, none, .steal 14) (.alt (.one (some 15, none, .extr 11 0) (.one (some 16, none, .extr 11 1) (.one (none, none, .st 4 (.tmp 3) (.tmp 15)) (.one (some 4, none, .mv (.tmp 16)) .done)))) (.one (some 16, none, .extr 11 1)
 (.one (some 15, none, .extr 11 0) (.one (none, none, .st 4 (.tmp 3) (.tmp 15)) (.one (some 4, none, .mv (.tmp 16)) .done)))))))))) (.one (some 3, none, .alloc [(.int .i64 0), (.int .i64 0), (.int .i64 0), (.string ⟨#[]⟩)]) (.one (some 12, none, .call f_authority_Full []) (.one (some 14, none, .call f_contain_Witness [(.tmp 12), (.tmp 13)]) (.one (some 11, none, .steal 14) (.alt (.one (some 15, none, .extr 11 0) (.one (some 16, none, .extr 11 1) (.one (none, none, .st 4 (.tmp 3) (.tmp 15)) (.one (some 4, none, .mv (.tmp 16)) .done)))) (.one (some 16, none, .extr 11 1) (.one (some 15, none, .extr 11 0) (.one (none, none, .st 4 (.tmp 3) (.tmp 15)) (.one (some 4, none, .mv (.tmp 16)) .done))))))))))) (.one (some 3, none, .alloc [(.int .i64 0), (.int .i64 0), (.int .i64 0), (.string ⟨#[]⟩)]) (.alt (.one (some 12, none, .call f_authority_Full []) (.one (some 13, none, .ldA 8 (.tmp 1)) (.one (some 14, none, .call f_contain_Witness [(.tmp 12), (.tmp 13)]) (.one (some 11, none, .steal 14) (.alt (.one (some 15, none, .extr 11 0) (.one (some 16, none, .extr 11 1) (.one (none, none, .st 4 (.tmp 3) (.tmp 15)) (.one (some 4, none, .mv (.tmp 16)) .done)))) (.one (some 16, none, .extr 11 1) (.one (some 15, none, .extr 11 0) (.one (none, none, .st 4 (.tmp 3) (.tmp 15)) (.one (some 4, none, .mv (.tmp 16)) .done))))))))) (.one (some 13, none, .ldA 8 (.tmp 1)) (.one (some 12, none, .call f_authority_Full []) (.one (some 14, none, .call f_contain_Witness [(.tmp 12), (.tmp 13)])
 (.one (some 11, none, .steal 14) (.alt (.one (some 15, none, .extr 11 0) (.one (some 16, none, .extr 11 1) (.one (none, none, .st 4 (.tmp 3) (.tmp 15)) (.one (some 4, none, .mv (.tmp 16)) .done)))) (.one (some 16, none, .extr 11 1) (.one (some 15, none, .extr 11 0) (.one (none, none, .st 4 (.tmp 3) (.tmp 15)) (.one (some 4, none, .mv (.tmp 16)) .done)))))))))))))) (law09_awake_BC_j1 f_authority_Full f_contain_Within))))
def law09_made_BC_j1 : PC :=
 (.seq (.ord (.one (some 42, none, .ldA 8 (.tmp 7)) (.one (some 44, none, .mv (.tmp 5)) (.alt (.one (some 43, none, .ldA 8 (.tmp 10)) (.one (none, none, .st 8 (.tmp 2) (.tmp 42)) (.one (none, none, .st 8 (.tmp 3) (.tmp 43)) (.one (some 4, none, .mv (.tmp 44)) .done)))) (.one (none, none, .st 8 (.tmp 2) (.tmp 42)) (.one (some 43, none, .ldA 8 (.tmp 10)) (.one (none, none, .st 8 (.tmp 3) (.tmp 43)) (.one (some 4, none, .mv (.tmp 44)) .done)))))))) .ret)
def law09_made_BC_j2 (t_api_Span : Nat) (f_ref06_Of : Nat) (f_made_Deck_Next : Nat) : PC :=
 (.seq (.reg [(some 32, none, .mv (.tmp 9)), (some 33, none, .call f_ref06_Of [(.tmp 32)]), (some 31, none, .steal 33), (some 34, none, .extr 31 0), (some 35, none, .extr 31 1), (some 10, none, .alloc [(.bool false), (.int .u64 0), (.int .u64 0), (.int .u64 0), (.int .i64 0), (.int .i64 0), (lin t_api_Span []), (.string ⟨#[]⟩)]), (none, none, .st 8 (.tmp 10) (.tmp 34)), (some 11, none, .mv (.tmp 35))]) (.seq (.seq (.reg [(some 36, none, .mv (.tmp 5)), (some 37, none, .call f_made_Deck_Next [(.tmp 36), (.const (.int .i64 2))]), (some 38, none, .bi .eql (.tmp 37) (.const (.int .i64 0)))]) (.cond (.tmp 38) (.seq (.ord (.one (some 39, none, .ldA 8 (.tmp 10)) (.one (some 41, none, .mv (.tmp 5)) (.alt (.one (some 40, none, .ldA 8 (.tmp 7)) (.one (none, none, .st 8 (.tmp 2) (.tmp 39)) (.one (none, none, .st 8 (.tmp 3) (.tmp 40)) (.one (some 4, none, .mv (.tmp 41)) .done)))) (.one (none, none, .st 8 (.tmp 2) (.tmp 39)) (.one (some 40, none, .ldA 8 (.tmp 7)) (.one (none, none, .st 8 (.tmp 3) (.tmp 40)) (.one (some 4, none, .mv (.tmp 41)) .done)))))))) .ret) .skip)) law09_made_BC_j1))
def law09_made_BC (t_api_Span : Nat) (f_made_New : Nat) (f_made_Deck_Predicates : Nat) (f_ref06_Of : Nat) (f_made_Deck_Next : Nat) (t_api_Predicate : Nat) : PC :=
 (.seq (.reg [(some 2, none, .alloc [(.bool false), (.int .u64 0), (.int .u64 0), (.int .u64 0), (.int .i64 0), (.int .i64 0), (lin t_api_Span []), (.string ⟨#[]⟩)]), (some 3, none, .alloc [(.bool false), (.int .u64 0), (.int .u64 0), (.int .u64 0), (.int .i64 0), (.int .i64 0), (lin t_api_Span []), (.string ⟨#[]⟩)]), (some 4, none, .mv (.const (.pointer none)))]) (.seq (.reg [(some 12, none, .mv (.tmp 0)), (some 13, none, .call f_made_New [(.tmp 12)]), (some 5, none, .mv (.tmp 13))]) (.seq (.reg [(some 14, none, .mv (.tmp 5)), (some 15, none, .call f_made_Deck_Predicates [(.tmp 14), (.const (.int .i64 4)), (.const (.bool true))]), (some 6, none, .steal 15)]) (.seq (.reg [(some 17, none, .mv (.tmp 6)), (some 18, none, .call f_ref06_Of [(.tmp 17)]), (some 16, none, .steal 18), (some 19, none, .extr 16 0), (some 20, none, .extr 16 1), (some 7, none, .alloc [(.bool false), (.int .u64 0), (.int .u64 0), (.int .u64 0), (.int .i64 0), (.int .i64 0), (lin t_api_Span []), (.string ⟨#[]⟩)]), (none, none, .st 8 (.tmp 7) (.tmp 19)), (some 8, none, .mv (.tmp 20))]) (.seq (.reg [(some 21, none, .mv (.tmp 5)), (some 22, none, .call f_made_Deck_Predicates [(.tmp 21), (.const (.int .i64 2)), (.const (.bool true))]), (some 9, none, .steal 22)]) (.seq (.seq (.reg [(some 23, none, .mv (.tmp 5)), (some 24, none, .call f_made_Deck_Next [(.tmp 23), (.const (.int .i64 2))]), (some 25, none, .bi .eql (.tmp 24) (.const (.int .i64 0)))]) (.cond (.tmp 25)
 (.reg [(some 26, none, .mks t_api_Predicate 6 true []), (some 27, none, .mv (.tmp 6)), (some 28, none, .app t_api_Predicate 6 56 26 (.tmp 27)), (some 29, none, .mv (.tmp 9)), (some 30, none, .app t_api_Predicate 6 56 28 (.tmp 29)), (some 9, none, .steal 30)]) .skip)) (law09_made_BC_j2 t_api_Span f_ref06_Of f_made_Deck_Next)))))))
def contain_Witness_BC_j1 : PC :=
 (.seq (.seq (.reg [(some 69, none, .mv (.tmp 8))]) (.cond (.tmp 69) (.seq (.reg [(some 70, none, .mv (.tmp 7)), (some 71, none, .fa 0 (.tmp 6)), (none, none, .st 1 (.tmp 71) (.tmp 70))]) (.seq (.reg [(some 72, none, .ldA 4 (.tmp 6)), (none, none, .st 4 (.tmp 4) (.tmp 72)), (some 5, none, .mv (.const (.bool true)))]) .ret)) .skip)) (.seq (.reg [(some 73, none, .build [(.inl [(.int .i64 0)]), (.inl [(.int .i64 0)]), (.inl [(.int .i64 0)]), (.inl [(.string ⟨#[]⟩)])]), (none, none, .st 4 (.tmp 4) (.tmp 73)), (some 5, none, .mv (.const (.bool false)))]) .ret))
def contain_Witness_BC_j2 : PC :=
 (.seq (.seq (.reg [(some 65, none, .mv (.tmp 10))]) (.cond (.tmp 65) (.seq (.reg [(some 66, none, .mv (.tmp 9)), (some 67, none, .fa 1 (.tmp 6)), (none, none, .st 1 (.tmp 67) (.tmp 66))]) (.seq (.reg [(some 68, none, .ldA 4 (.tmp 6)), (none, none, .st 4 (.tmp 4) (.tmp 68)), (some 5, none, .mv (.const (.bool true)))]) .ret)) .skip)) contain_Witness_BC_j1)
def contain_Witness_BC_j3 (f_contain_behind : Nat) : PC :=
 (.seq (.seq (.reg [(some 61, none, .ldA 8 (.tmp 2)), (some 62, none, .ldA 8 (.tmp 3)), (some 63, none, .call f_contain_behind [(.tmp 61), (.tmp 62), (.tmp 6)])]) (.cond (.tmp 63) (.seq (.reg [(some 64, none, .ldA 4 (.tmp 6)), (none, none, .st 4 (.tmp 4) (.tmp 64)), (some 5, none, .mv (.const (.bool true)))]) .ret) .skip)) contain_Witness_BC_j2)
def contain_Witness_BC_j4 (f_contain_first : Nat) (f_contain_behind : Nat) : PC :=
 (.seq (.reg [(some 46, none, .fa 2 (.tmp 2)), (some 47, none, .ld false (.tmp 46)), (some 48, none, .fa 2 (.tmp 3)), (some 49, none, .ld false (.tmp 48)), (some 50, none, .call f_contain_first [(.tmp 47), (.tmp 49)]), (some 45, none, .steal 50), (some 51, none, .extr 45 0), (some 52, none, .extr 45 1), (some 9, none, .mv (.tmp 51)), (some 10, none, .mv (.tmp 52))]) (.seq (.seq (.reg [(some 53, none, .mv (.tmp 10)), (some 54, none, .mv (.tmp 53)), (some 55, some (54, true), .mv (.tmp 9)), (some 56, some (54, true), .fa 1 (.tmp 6)), (some 57, some (54, true), .ld false (.tmp 56)), (some 58, some (54, true), .bi .eql (.tmp 55) (.tmp 57)), (some 59, none, .pick (.tmp 54) (.tmp 58) (.const (.bool false)))]) (.cond (.tmp 59) (.seq (.reg [(some 60, none, .ldA 4 (.tmp 6)), (none, none, .st 4 (.tmp 4) (.tmp 60)), (some 5, none, .mv (.const (.bool true)))]) .ret) .skip)) (contain_Witness_BC_j3 f_contain_behind)))
def contain_Witness_BC_j5 (f_contain_first : Nat) (f_contain_behind : Nat) : PC :=
 (.seq (.reg [(some 30, none, .fa 1 (.tmp 2)), (some 31, none, .ld false (.tmp 30)), (some 32, none, .fa 1 (.tmp 3)), (some 33, none, .ld false (.tmp 32)), (some 34, none, .call f_contain_first [(.tmp 31), (.tmp 33)]), (some 29, none, .steal 34), (some 35, none, .extr 29 0), (some 36, none, .extr 29 1), (some 7, none, .mv (.tmp 35)), (some 8, none, .mv (.tmp 36))]) (.seq (.seq (.reg [(some 37, none, .mv (.tmp 8)), (some 38, none, .mv (.tmp 37)), (some 39, some (38, true), .mv (.tmp 7)), (some 40, some (38, true), .fa 0 (.tmp 6)), (some 41, some (38, true), .ld false (.tmp 40)), (some 42, some (38, true), .bi .eql (.tmp 39) (.tmp 41)), (some 43, none, .pick (.tmp 38) (.tmp 42) (.const (.bool false)))]) (.cond (.tmp 43) (.seq (.reg [(some 44, none, .ldA 4 (.tmp 6)), (none, none, .st 4 (.tmp 4) (.tmp 44)), (some 5, none, .mv (.const (.bool true)))]) .ret) .skip)) (contain_Witness_BC_j4 f_contain_first f_contain_behind)))
def contain_Witness_BC_j6 (f_contain_least : Nat) (f_contain_first : Nat) (f_contain_behind : Nat) : PC :=
 (.seq (.reg [(some 24, none, .ldA 8 (.tmp 2)), (some 25, none, .call f_contain_least [(.tmp 24)]), (some 6, none, .alloc [(.int .i64 0), (.int .i64 0), (.int .i64 0), (.string ⟨#[]⟩)]), (none, none, .st 4 (.tmp 6) (.tmp 25))]) (.seq (.seq (.reg [(some 26, none, .fa 0 (.tmp 3)), (some 27, none, .ld false (.tmp 26))]) (.cond (.tmp 27) (.seq (.reg [(some 28, none, .ldA 4 (.tmp 6)), (none, none, .st 4 (.tmp 4) (.tmp 28)), (some 5, none, .mv (.const (.bool true)))]) .ret) .skip)) (contain_Witness_BC_j5 f_contain_first f_contain_behind)))
def contain_Witness_BC (f_authority_Valid : Nat) (f_contain_least : Nat) (f_contain_first : Nat) (f_contain_behind : Nat) : PC :=
 (.seq (.reg [(some 2, none, .box 8 (.tmp 0)), (some 3, none, .box 8 (.tmp 1)), (some 4, none, .alloc [(.int .i64 0), (.int .i64 0), (.int .i64 0), (.string ⟨#[]⟩)]), (some 5, none, .mv (.const (.bool false)))]) (.seq (.seq (.reg [(some 11, none, .ldA 8 (.tmp 2)), (some 12, none, .call f_authority_Valid [(.tmp 11)]), (some 13, none, .un .not (.tmp 12)), (some 14, none, .mv (.tmp 13)), (some 15, some (14, false), .ldA 8 (.tmp 3)), (some 16, some (14, false), .call f_authority_Valid [(.tmp 15)]), (some 17, some (14, false), .un .not (.tmp 16)), (some 18, none, .pick (.tmp 14) (.const (.bool true)) (.tmp 17)), (some 19, none, .mv (.tmp 18)), (some 20, some (19, false), .fa 0 (.tmp 2)), (some 21, some (19, false), .ld false (.tmp 20)), (some 22, none, .pick (.tmp 19) (.const (.bool true)) (.tmp 21))]) (.cond (.tmp 22) (.seq (.reg [(some 23, none, .build [(.inl [(.int .i64 0)]), (.inl [(.int .i64 0)]), (.inl [(.int .i64 0)]), (.inl [(.string ⟨#[]⟩)])]), (none, none, .st 4 (.tmp 4) (.tmp 23)), (some 5, none, .mv (.const (.bool false)))]) .ret) .skip)) (contain_Witness_BC_j6 f_contain_least f_contain_first f_contain_behind)))
def contain_Within_BC_j1 (f_contain_Witness : Nat) : PC :=
 (.seq (.reg [(some 16, none, .ldA 8 (.tmp 2)), (some 17, none, .ldA 8 (.tmp 3)), (some 18, none, .call f_contain_Witness [(.tmp 16), (.tmp 17)]), (some 15, none, .steal 18), (some 19, none, .extr 15 0), (some 20, none, .extr 15 1), (some 5, none, .alloc [(.int .i64 0), (.int .i64 0), (.int .i64 0), (.string ⟨#[]⟩)]), (none, none, .st 4 (.tmp 5) (.tmp 19)), (some 6, none, .mv (.tmp 20))]) (.seq (.reg [(some 21, none, .mv (.tmp 6)), (some 22, none, .un .not (.tmp 21)), (some 4, none, .mv (.tmp 22))]) .ret))
def contain_Within_BC (f_authority_Valid : Nat) (f_contain_Witness : Nat) : PC :=
 (.seq (.reg [(some 2, none, .box 8 (.tmp 0)), (some 3, none, .box 8 (.tmp 1)), (some 4, none, .mv (.const (.bool false)))]) (.seq (.seq (.reg [(some 7, none, .ldA 8 (.tmp 2)), (some 8, none, .call f_authority_Valid [(.tmp 7)]), (some 9, none, .un .not (.tmp 8)), (some 10, none, .mv (.tmp 9)), (some 11, some (10, false), .ldA 8 (.tmp 3)), (some 12, some (10, false), .call f_authority_Valid [(.tmp 11)]), (some 13, some (10, false), .un .not (.tmp 12)), (some 14, none, .pick (.tmp 10) (.const (.bool true)) (.tmp 13))]) (.cond (.tmp 14) (.seq (.reg [(some 4, none, .mv (.const (.bool false)))]) .ret) .skip)) (contain_Within_BC_j1 f_contain_Witness)))
def contain_least_BC (f_math_bits_TrailingZeros64 : Nat) : PC :=
 (.seq (.reg [(some 1, none, .box 8 (.tmp 0)), (some 2, none, .alloc [(.int .i64 0), (.int .i64 0), (.int .i64 0), (.string ⟨#[]⟩)])]) (.seq (.mon [(some 4, none, .fa 1 (.tmp 1)), (some 5, none, .ld false (.tmp 4)), (some 6, none, .call f_math_bits_TrailingZeros64 [(.tmp 5)]), (some 7, none, .fa 2 (.tmp 1)), (some 8, none, .ld false (.tmp 7)), (some 9, none, .call f_math_bits_TrailingZeros64 [(.tmp 8)]), (some 10, none, .fa 4 (.tmp 1)), (some 11, none, .ld false (.tmp 10)), (some 12, none, .fa 7 (.tmp 1)), (some 13, none, .ld false (.tmp 12)), (some 14, none, .build [(.inr ((.tmp 6), 1)), (.inr ((.tmp 9), 1)), (.inr ((.tmp 11), 1)), (.inr ((.tmp 13), 1))]), (some 3, none, .alloc [(.int .i64 0), (.int .i64 0), (.int .i64 0), (.string ⟨#[]⟩)]), (none, none, .st 4 (.tmp 3) (.tmp 14))]) (.seq (.seq (.reg [(some 15, none, .fa 3 (.tmp 3)), (some 16, none, .ld false (.tmp 15)), (some 17, none, .bi .eql (.tmp 16) (.const (.string ⟨#[]⟩)))]) (.cond (.tmp 17) (.reg [(some 18, none, .fa 3 (.tmp 3)), (none, none, .st 1 (.tmp 18) (.const (.string ⟨#[97]⟩)))]) .skip)) (.seq (.reg [(some 19, none, .ldA 4 (.tmp 3)), (none, none, .st 4 (.tmp 2) (.tmp 19))]) .ret))))
def contain_first_BC (f_math_bits_TrailingZeros64 : Nat) : PC :=
 (.seq (.reg [(some 4, none, .mv (.const (.int .i64 0))), (some 5, none, .mv (.const (.bool false)))]) (.seq (.reg [(some 6, none, .mv (.tmp 0)), (some 7, none, .mv (.tmp 1)), (some 8, none, .bi .andNot (.tmp 6) (.tmp 7)), (some 9, none, .call f_math_bits_TrailingZeros64 [(.tmp 8)]), (some 10, none, .mv (.tmp 0)), (some 11, none, .mv (.tmp 1)), (some 12, none, .bi .andNot (.tmp 10) (.tmp 11)), (some 13, none, .bi .neq (.tmp 12) (.const (.int .u64 0))), (some 4, none, .mv (.tmp 9)), (some 5, none, .mv (.tmp 13))]) .ret))
def contain_behind_BC_j1 : PC :=
 (.seq (.seq (.reg [(some 35, none, .mv (.tmp 8))]) (.cond (.tmp 35) (.reg [(some 36, none, .mv (.tmp 2)), (some 37, none, .mv (.tmp 7)), (some 38, none, .nilc (.tmp 36)), (some 39, none, .fa 2 (.tmp 38)), (none, none, .st 1 (.tmp 39) (.tmp 37))]) .skip)) (.seq (.reg [(some 40, none, .mv (.tmp 8)), (some 6, none, .mv (.tmp 40))]) .ret))
def contain_behind_BC_j2 (f_contain_holder : Nat) : PC :=
 (.seq (.seq (.reg [(some 25, none, .ldA 8 (.tmp 3)), (some 26, none, .ldA 8 (.tmp 4)), (some 27, none, .call f_contain_holder [(.tmp 25), (.tmp 26)]), (some 24, none, .steal 27), (some 28, none, .extr 24 0), (some 29, none, .extr 24 1), (some 9, none, .mv (.tmp 28)), (some 10, none, .mv (.tmp 29))]) (.seq (.reg [(some 30, none, .mv (.tmp 10))]) (.cond (.tmp 30) (.seq (.reg [(some 31, none, .mv (.tmp 2)), (some 32, none, .mv (.tmp 9)), (some 33, none, .nilc (.tmp 31)), (some 34, none, .fa 3 (.tmp 33)), (none, none, .st 1 (.tmp 34) (.tmp 32))]) (.seq (.reg [(some 6, none, .mv (.const (.bool true)))]) .ret)) .skip))) contain_behind_BC_j1)
def contain_behind_BC (f_contain_minute : Nat) (f_contain_holder : Nat) : PC :=
 (.seq (.reg [(some 3, none, .box 8 (.tmp 0)), (some 4, none, .box 8 (.tmp 1)), (some 6, none, .mv (.const (.bool false)))]) (.seq (.reg [(some 12, none, .ldA 8 (.tmp 3)), (some 13, none, .ldA 8 (.tmp 4)), (some 14, none, .call f_contain_minute [(.tmp 12), (.tmp 13)]), (some 11, none, .steal 14), (some 15, none, .extr 11 0), (some 16, none, .extr 11 1), (some 7, none, .mv (.tmp 15)), (some 8, none, .mv (.tmp 16))]) (.seq (.seq (.reg [(some 17, none, .mv (.tmp 8)), (some 18, none, .mv (.tmp 17)), (some 19, some (18, true), .mv (.tmp 7)), (some 20, some (18, true), .fa 4 (.tmp 3)), (some 21, some (18, true), .ld false (.tmp 20)), (some 22, some (18, true), .bi .eql (.tmp 19) (.tmp 21)), (some 23, none, .pick (.tmp 18) (.tmp 22) (.const (.bool false)))]) (.cond (.tmp 23) (.seq (.reg [(some 6, none, .mv (.const (.bool true)))]) .ret) .skip)) (contain_behind_BC_j2 f_contain_holder))))
def ref06_other_BC : PC :=
 (.seq (.reg [(some 2, none, .box 8 (.tmp 0)), (some 3, none, .box 8 (.tmp 1)), (some 4, none, .mv (.const (.string ⟨#[]⟩))), (some 5, none, .mv (.const (.bool false)))]) (.seq (.block 0 (.seq (.reg [(some 7, none, .fa 7 (.tmp 3)), (some 8, none, .ld false (.tmp 7)), (some 9, none, .bi .eql (.tmp 8) (.const (.string ⟨#[]⟩))), (some 10, none, .mv (.tmp 9)), (some 11, some (10, false), .fa 7 (.tmp 2)), (some 12, some (10, false), .ld false (.tmp 11)), (some 13, some (10, false), .fa 7 (.tmp 3)), (some 14, some (10, false), .ld false (.tmp 13)), (some 15, some (10, false), .bi .eql (.tmp 12) (.tmp 14)), (some 16, none, .pick (.tmp 10) (.const (.bool true)) (.tmp 15)), (some 6, none, .mv (.tmp 16))]) (.cond (.tmp 6) (.seq (.reg [(some 4, none, .mv (.const (.string ⟨#[]⟩))), (some 5, none, .mv (.const (.bool false)))]) .ret) (.seq (.reg [(some 18, none, .fa 7 (.tmp 2)), (some 19, none, .ld false (.tmp 18)), (some 20, none, .bi .neq (.tmp 19) (.const (.string ⟨#[]⟩))), (some 17, none, .mv (.tmp 20))]) (.cond (.tmp 17) (.seq (.reg [(some 21, none, .fa 7 (.tmp 2)), (some 22, none, .ld false (.tmp 21)), (some 4, none, .mv (.tmp 22)), (some 5, none, .mv (.const (.bool true)))]) .ret) (.seq (.reg [(some 24, none, .fa 7 (.tmp 3)), (some 25, none, .ld false (.tmp 24)), (some 26, none, .bi .eql (.tmp 25) (.const (.string ⟨#[97]⟩))), (some 23, none, .mv (.tmp 26))]) (.cond (.tmp 23) (.seq (.reg [(some 4, none, .mv (.const (.string ⟨#[98]⟩))),
 (some 5, none, .mv (.const (.bool true)))]) .ret) .skip))))))) (.seq (.reg [(some 4, none, .mv (.const (.string ⟨#[97]⟩))), (some 5, none, .mv (.const (.bool true)))]) .ret)))
def math_bits_TrailingZeros64_BC_j1 (g_math_bits_deBruijn64tab : Nat) : PC :=
 (.seq (.reg [(some 5, none, .mv (.tmp 0)), (some 6, none, .mv (.tmp 0)), (some 7, none, .un .neg (.tmp 6)), (some 8, none, .bi .and (.tmp 5) (.tmp 7)), (some 9, none, .bi .mul (.tmp 8) (.const (.int .u64 285870213051353865))), (some 10, none, .bi .shr (.tmp 9) (.const (.int .u64 58))), (some 11, none, .ixP 64 1 (.global g_math_bits_deBruijn64tab) (.tmp 10)), (some 12, none, .ld false (.tmp 11)), (some 13, none, .cv .i64 (.tmp 12)), (some 2, none, .mv (.tmp 13))]) .ret)
def math_bits_TrailingZeros64_BC (g_math_bits_deBruijn64tab : Nat) : PC :=
 (.seq (.reg [(some 2, none, .mv (.const (.int .i64 0)))]) (.seq (.seq (.reg [(some 3, none, .mv (.tmp 0)), (some 4, none, .bi .eql (.tmp 3) (.const (.int .u64 0)))]) (.cond (.tmp 4) (.seq (.reg [(some 2, none, .mv (.const (.int .i64 64)))]) .ret) .skip)) (math_bits_TrailingZeros64_BC_j1 g_math_bits_deBruijn64tab)))
def contain_minute_BC_j1 (t_int : Nat) : PC :=
 (.seq (.block 3 (.seq (.reg [(some 30, none, .mv (.tmp 28)), (some 9, none, .mv (.tmp 30))]) (.reg [(some 31, none, .steal 6), (some 32, none, .mv (.tmp 8)), (some 33, none, .bi .quo (.tmp 32) (.const (.int .i64 1440))), (some 34, none, .mv (.tmp 9)), (some 35, none, .bi .add (.tmp 33) (.tmp 34)), (some 36, none, .mks t_int 1 false [(.tmp 35)]), (some 37, none, .appB 1 8 [(.int .i64 0)] 31 (.tmp 36)), (some 6, none, .steal 37)]))) (.reg [(some 38, none, .bi .add (.tmp 28) (.const (.int .i64 1))), (some 28, none, .mv (.tmp 38))]))
def contain_minute_BC_j2 (t_int : Nat) : PC :=
 (.seq (.block 1 (.seq (.reg [(some 26, none, .ixB 1 (.tmp 22) (.tmp 24)), (some 27, none, .ld false (.tmp 26)), (some 8, none, .mv (.tmp 27))]) (.seq (.reg [(some 28, none, .mv (.const (.int .i64 0)))]) (.block 2 (.loop (.seq (.reg [(some 29, none, .bi .lss (.tmp 28) (.const (.int .i64 10)))]) (.seq (.cond (.tmp 29) .skip (.exit 2)) (contain_minute_BC_j1 t_int)))))))) (.reg [(some 39, none, .bi .add (.tmp 24) (.const (.int .i64 1))), (some 24, none, .mv (.tmp 39))]))
def contain_minute_BC_j3 : PC :=
 (.seq (.reg [(some 58, none, .mv (.tmp 13))]) (.cond (.tmp 58) (.seq (.reg [(some 59, none, .mv (.tmp 11)), (some 60, none, .bi .mul (.tmp 59) (.const (.int .i64 1440))), (some 61, none, .mv (.tmp 12)), (some 62, none, .bi .add (.tmp 60) (.tmp 61)), (some 4, none, .mv (.tmp 62)), (some 5, none, .mv (.const (.bool true)))]) .ret) .skip))
def contain_minute_BC_j4 (f_authority_Day : Nat) (f_contain_without : Nat) : PC :=
 (.seq (.block 5 (.seq (.reg [(some 46, none, .ixB 1 (.tmp 42) (.tmp 44)), (some 47, none, .ld false (.tmp 46)), (some 11, none, .mv (.tmp 47))]) (.seq (.ord (.one (some 50, none, .mv (.tmp 11)) (.one (some 53, none, .mv (.tmp 11)) (.alt (.one (some 49, none, .ldA 8 (.tmp 2)) (.alt (.one (some 51, none, .callB f_authority_Day [(.tmp 49), (.tmp 50)]) (.one (some 52, none, .ldA 8 (.tmp 3)) (.one (some 54, none, .callB f_authority_Day [(.tmp 52), (.tmp 53)]) (.one (some 55, none, .callB f_contain_without [(.tmp 51), (.tmp 54)]) (.one (some 48, none, .steal 55) (.alt (.one (some 56, none, .extr 48 0) (.one (some 57, none, .extr 48 1) (.one (some 12, none, .mv (.tmp 56)) (.one (some 13, none, .mv (.tmp 57)) .done)))) (.one (some 57, none, .extr 48 1) (.one (some 56, none, .extr 48 0) (.one (some 12, none, .mv (.tmp 56)) (.one (some 13, none, .mv (.tmp 57)) .done)))))))))) (.one (some 52, none, .ldA 8 (.tmp 3)) (.one (some 51, none, .callB f_authority_Day [(.tmp 49), (.tmp 50)]) (.one (some 54, none, .callB f_authority_Day [(.tmp 52), (.tmp 53)]) (.one (some 55, none, .callB f_contain_without [(.tmp 51), (.tmp 54)]) (.one (some 48, none, .steal 55) (.alt (.one (some 56, none, .extr 48 0) (.one (some 57, none, .extr 48 1) (.one (some 12, none, .mv (.tmp 56)) (.one (some 13, none, .mv (.tmp 57)) .done)))) (.one (some 57, none, .extr 48 1) (.one (some 56, none, .extr 48 0) (.one (some 12, none, .mv (.tmp 56)) (.one (some 13, none, .mv (.tmp 57)) .done))))))))))))
 (.one (some 52, none, .ldA 8 (.tmp 3)) (.one (some 49, none, .ldA 8 (.tmp 2)) (.one (some 51, none, .callB f_authority_Day [(.tmp 49), (.tmp 50)]) (.one (some 54, none, .callB f_authority_Day [(.tmp 52), (.tmp 53)]) (.one (some 55, none, .callB f_contain_without [(.tmp 51), (.tmp 54)]) (.one (some 48, none, .steal 55) (.alt (.one (some 56, none, .extr 48 0) (.one (some 57, none, .extr 48 1) (.one (some 12, none, .mv (.tmp 56)) (.one (some 13, none, .mv (.tmp 57)) .done)))) (.one (some 57, none, .extr 48 1) (.one (some 56, none, .extr 48 0) (.one (some 12, none, .mv (.tmp 56)) (.one (some 13, none, .mv (.tmp 57)) .done))))))))))))))) contain_minute_BC_j3))) (.reg [(some 63, none, .bi .add (.tmp 44) (.const (.int .i64 1))), (some 44, none, .mv (.tmp 63))]))
def contain_minute_BC_j5 (f_slices_Sort_int_int : Nat) (f_authority_Day : Nat) (f_contain_without : Nat) : PC :=
 (.seq (.reg [(some 40, none, .mv (.tmp 6)), (some 41, none, .callB f_slices_Sort_int_int [(.tmp 40)])]) (.seq (.seq (.reg [(some 42, none, .mv (.tmp 6)), (some 43, none, .lenB (.tmp 42)), (some 44, none, .mv (.const (.int .i64 0)))]) (.block 4 (.loop (.seq (.reg [(some 45, none, .bi .lss (.tmp 44) (.tmp 43))]) (.seq (.cond (.tmp 45) .skip (.exit 4)) (contain_minute_BC_j4 f_authority_Day f_contain_without)))))) (.seq (.reg [(some 4, none, .mv (.const (.int .i64 0))), (some 5, none, .mv (.const (.bool false)))]) .ret)))
def contain_minute_BC (t_int : Nat) (f_slices_Sort_int_int : Nat) (f_authority_Day : Nat) (f_contain_without : Nat) : PC :=
 (.seq (.reg [(some 2, none, .box 8 (.tmp 0)), (some 3, none, .box 8 (.tmp 1)), (some 4, none, .mv (.const (.int .i64 0))), (some 5, none, .mv (.const (.bool false)))]) (.seq (.reg [(some 6, none, .cns)]) (.seq (.seq (.reg [(some 14, none, .fa 4 (.tmp 2)), (some 15, none, .ld false (.tmp 14)), (some 16, none, .fa 5 (.tmp 2)), (some 17, none, .ld false (.tmp 16)), (some 18, none, .fa 4 (.tmp 3)), (some 19, none, .ld false (.tmp 18)), (some 20, none, .fa 5 (.tmp 3)), (some 21, none, .ld false (.tmp 20)), (some 22, none, .mks t_int 1 false [(.tmp 15), (.tmp 17), (.tmp 19), (.tmp 21)]), (some 23, none, .lenB (.tmp 22)), (some 24, none, .mv (.const (.int .i64 0)))]) (.block 0 (.loop (.seq (.reg [(some 25, none, .bi .lss (.tmp 24) (.tmp 23))]) (.seq (.cond (.tmp 25) .skip (.exit 0)) (contain_minute_BC_j2 t_int)))))) (contain_minute_BC_j5 f_slices_Sort_int_int f_authority_Day f_contain_without))))
def contain_holder_BC : PC :=
 (.seq (.reg [(some 2, none, .box 8 (.tmp 0)), (some 3, none, .box 8 (.tmp 1)), (some 4, none, .mv (.const (.string ⟨#[]⟩))), (some 5, none, .mv (.const (.bool false)))]) (.seq (.block 0 (.seq (.reg [(some 7, none, .fa 7 (.tmp 3)), (some 8, none, .ld false (.tmp 7)), (some 9, none, .bi .eql (.tmp 8) (.const (.string ⟨#[]⟩))), (some 10, none, .mv (.tmp 9)), (some 11, some (10, false), .fa 7 (.tmp 2)), (some 12, some (10, false), .ld false (.tmp 11)), (some 13, some (10, false), .fa 7 (.tmp 3)), (some 14, some (10, false), .ld false (.tmp 13)), (some 15, some (10, false), .bi .eql (.tmp 12) (.tmp 14)), (some 16, none, .pick (.tmp 10) (.const (.bool true)) (.tmp 15)), (some 6, none, .mv (.tmp 16))]) (.cond (.tmp 6) (.seq (.reg [(some 4, none, .mv (.const (.string ⟨#[]⟩))), (some 5, none, .mv (.const (.bool false)))]) .ret) (.seq (.reg [(some 18, none, .fa 7 (.tmp 2)), (some 19, none, .ld false (.tmp 18)), (some 20, none, .bi .neq (.tmp 19) (.const (.string ⟨#[]⟩))), (some 17, none, .mv (.tmp 20))]) (.cond (.tmp 17) (.seq (.reg [(some 21, none, .fa 7 (.tmp 2)), (some 22, none, .ld false (.tmp 21)), (some 4, none, .mv (.tmp 22)), (some 5, none, .mv (.const (.bool true)))]) .ret) (.seq (.reg [(some 24, none, .fa 7 (.tmp 3)), (some 25, none, .ld false (.tmp 24)), (some 26, none, .bi .eql (.tmp 25) (.const (.string ⟨#[97]⟩))), (some 23, none, .mv (.tmp 26))]) (.cond (.tmp 23) (.seq (.reg [(some 4, none, .mv (.const (.string ⟨#[98]⟩))),
 (some 5, none, .mv (.const (.bool true)))]) .ret) .skip))))))) (.seq (.reg [(some 4, none, .mv (.const (.string ⟨#[97]⟩))), (some 5, none, .mv (.const (.bool true)))]) .ret)))
def contain_without_BC_j1 : PC :=
 (.seq (.block 1 (.seq (.reg [(some 15, none, .ixS 2 (.tmp 11) (.tmp 13)), (some 16, none, .ldA 2 (.tmp 15)), (some 7, none, .alloc [(.int .i64 0), (.int .i64 0)]), (none, none, .st 2 (.tmp 7) (.tmp 16))]) (.scope 0 (.reg [(some 17, none, .fa 0 (.tmp 7)), (some 18, none, .ld false (.tmp 17)), (some 8, none, .mv (.tmp 18))]) (.seq (.seq (.reg [(some 19, none, .mv (.tmp 1)), (some 20, none, .len (.tmp 19)), (some 21, none, .mv (.const (.int .i64 0)))]) (.block 2 (.loop (.seq (.reg [(some 22, none, .bi .lss (.tmp 21) (.tmp 20))]) (.seq (.cond (.tmp 22) .skip (.exit 2)) (.seq (.block 3 (.seq (.reg [(some 23, none, .ixS 2 (.tmp 19) (.tmp 21)), (some 24, none, .ldA 2 (.tmp 23)), (some 10, none, .alloc [(.int .i64 0), (.int .i64 0)]), (none, none, .st 2 (.tmp 10) (.tmp 24))]) (.seq (.reg [(some 25, none, .mv (.tmp 8)), (some 26, none, .fa 0 (.tmp 10)), (some 27, none, .ld false (.tmp 26)), (some 28, none, .bi .geq (.tmp 25) (.tmp 27)), (some 29, none, .mv (.tmp 28)), (some 30, some (29, true), .mv (.tmp 8)), (some 31, some (29, true), .fa 1 (.tmp 10)), (some 32, some (29, true), .ld false (.tmp 31)), (some 33, some (29, true), .bi .leq (.tmp 30) (.tmp 32)), (some 34, none, .pick (.tmp 29) (.tmp 33) (.const (.bool false))), (some 35, none, .mv (.tmp 34)), (some 36, some (35, true), .mv (.tmp 8)), (some 37, some (35, true), .fa 1 (.tmp 7)), (some 38, some (35, true), .ld false (.tmp 37)), (some 39, some (35, true), .bi .leq (.tmp 36) (.tmp 38)), (some 40, none, .pick (.tmp 35)
 (.tmp 39) (.const (.bool false)))]) (.cond (.tmp 40) (.seq (.reg [(some 41, none, .fa 1 (.tmp 10)), (some 42, none, .ld false (.tmp 41)), (some 43, none, .bi .add (.tmp 42) (.const (.int .i64 1))), (some 8, none, .mv (.tmp 43))]) (.goto 0)) .skip)))) (.reg [(some 44, none, .bi .add (.tmp 21) (.const (.int .i64 1))), (some 21, none, .mv (.tmp 44))]))))))) (.seq (.reg [(some 45, none, .mv (.tmp 8)), (some 46, none, .fa 1 (.tmp 7)), (some 47, none, .ld false (.tmp 46)), (some 48, none, .bi .leq (.tmp 45) (.tmp 47))]) (.cond (.tmp 48) (.seq (.reg [(some 49, none, .mv (.tmp 8)), (some 4, none, .mv (.tmp 49)), (some 5, none, .mv (.const (.bool true)))]) .ret) .skip)))))) (.reg [(some 50, none, .bi .add (.tmp 13) (.const (.int .i64 1))), (some 13, none, .mv (.tmp 50))]))
def contain_without_BC : PC :=
 (.seq (.reg [(some 4, none, .mv (.const (.int .i64 0))), (some 5, none, .mv (.const (.bool false)))]) (.seq (.seq (.reg [(some 11, none, .mv (.tmp 0)), (some 12, none, .len (.tmp 11)), (some 13, none, .mv (.const (.int .i64 0)))]) (.block 0 (.loop (.seq (.reg [(some 14, none, .bi .lss (.tmp 13) (.tmp 12))]) (.seq (.cond (.tmp 14) .skip (.exit 0)) contain_without_BC_j1))))) (.seq (.reg [(some 4, none, .mv (.const (.int .i64 0))), (some 5, none, .mv (.const (.bool false)))]) .ret)))
end Go.PE
namespace Go.PE
open Go
def law09_ContainOrder_BC_j1 (f_authority_Meet : Nat) (f_contain_Within : Nat) (f_contain_Same : Nat) (f_law09_awake : Nat) : PC :=
 (.seq (.mon [(some 67, none, .ldA 8 (.tmp 5)), (some 68, none, .ldA 8 (.tmp 6)), (some 69, none, .call f_contain_Within [(.tmp 67), (.tmp 68)]), (some 70, none, .ldA 8 (.tmp 5)), (some 71, none, .ldA 8 (.tmp 6)), (some 72, none, .call f_authority_Meet [(.tmp 70), (.tmp 71)]), (some 73, none, .ldA 8 (.tmp 5)), (some 74, none, .call f_contain_Same [(.tmp 72), (.tmp 73)]), (some 75, none, .bb false (.tmp 69) (.tmp 74)), (some 76, none, .mv (.tmp 75)), (some 77, some (76, true), .ldA 8 (.tmp 13)), (some 78, some (76, true), .ldA 8 (.tmp 5)), (some 79, some (76, true), .call f_contain_Within [(.tmp 77), (.tmp 78)]), (some 80, none, .pick (.tmp 76) (.tmp 79) (.const (.bool false))), (some 81, none, .mv (.tmp 80)), (some 82, some (81, true), .ldA 8 (.tmp 13)), (some 83, some (81, true), .ldA 8 (.tmp 11)), (some 84, some (81, true), .call f_contain_Within [(.tmp 82), (.tmp 83)]), (some 85, none, .pick (.tmp 81) (.tmp 84) (.const (.bool false))), (some 86, none, .mv (.tmp 85)), (some 87, some (86, true), .call f_law09_awake []), (some 88, none, .pick (.tmp 86) (.tmp 87) (.const (.bool false))), (some 4, none, .mv (.tmp 88))]) .ret)
def law09_ContainOrder_BC (f_law09_made : Nat) (t_api_Span : Nat) (f_made_Deck_Predicates : Nat) (f_made_New : Nat) (f_ref06_Of : Nat) (f_authority_Of : Nat) (f_authority_Meet : Nat) (f_contain_Within : Nat) (f_contain_Same : Nat) (f_law09_awake : Nat) : PC :=
 (.seq (.reg [(some 4, none, .mv (.const (.bool false)))]) (.seq (.reg [(some 15, none, .mv (.tmp 0)), (some 16, none, .call f_law09_made [(.tmp 15)]), (some 14, none, .steal 16), (some 17, none, .extr 14 0), (some 18, none, .extr 14 1), (some 19, none, .extr 14 2), (some 5, none, .alloc [(.bool false), (.int .u64 0), (.int .u64 0), (.int .u64 0), (.int .i64 0), (.int .i64 0), (lin t_api_Span []), (.string ⟨#[]⟩)]), (some 6, none, .alloc [(.bool false), (.int .u64 0), (.int .u64 0), (.int .u64 0), (.int .i64 0), (.int .i64 0), (lin t_api_Span []), (.string ⟨#[]⟩)]), (none, none, .st 8 (.tmp 5) (.tmp 17)), (none, none, .st 8 (.tmp 6) (.tmp 18)), (some 7, none, .mv (.tmp 19))]) (.seq (.reg [(some 20, none, .mv (.tmp 7)), (some 21, none, .call f_made_Deck_Predicates [(.tmp 20), (.const (.int .i64 3)), (.const (.bool true))]), (some 8, none, .steal 21)]) (.seq (.reg [(some 23, none, .mv (.tmp 1)), (some 24, none, .call f_made_New [(.tmp 23)]), (some 25, none, .call f_made_Deck_Predicates [(.tmp 24), (.const (.int .i64 3)), (.const (.bool true))]), (some 26, none, .call f_ref06_Of [(.tmp 25)]), (some 22, none, .steal 26), (some 27, none, .extr 22 0), (some 28, none, .extr 22 1), (some 9, none, .alloc [(.bool false), (.int .u64 0), (.int .u64 0), (.int .u64 0), (.int .i64 0), (.int .i64 0), (lin t_api_Span []), (.string ⟨#[]⟩)]), (none, none, .st 8 (.tmp 9) (.tmp 27)), (some 10, none, .mv (.tmp 28))]) (.seq (.reg [(some 30, none, .mv (.tmp 8)),
 (some 31, none, .call f_authority_Of [(.tmp 30)]), (some 29, none, .steal 31), (some 32, none, .extr 29 0), (some 33, none, .extr 29 1), (some 11, none, .alloc [(.bool false), (.int .u64 0), (.int .u64 0), (.int .u64 0), (.int .i64 0), (.int .i64 0), (lin t_api_Span []), (.string ⟨#[]⟩)]), (none, none, .st 8 (.tmp 11) (.tmp 32)), (some 12, none, .mv (.tmp 33))]) (.seq (.reg [(some 34, none, .ldA 8 (.tmp 5)), (some 35, none, .ldA 8 (.tmp 11)), (some 36, none, .call f_authority_Meet [(.tmp 34), (.tmp 35)]), (some 13, none, .alloc [(.bool false), (.int .u64 0), (.int .u64 0), (.int .u64 0), (.int .i64 0), (.int .i64 0), (lin t_api_Span []), (.string ⟨#[]⟩)]), (none, none, .st 8 (.tmp 13) (.tmp 36))]) (.seq (.seq (.reg [(some 37, none, .ldA 8 (.tmp 5)), (some 38, none, .ldA 8 (.tmp 6)), (some 39, none, .call f_contain_Within [(.tmp 37), (.tmp 38)]), (some 40, none, .mv (.tmp 39)), (some 41, some (40, true), .ldA 8 (.tmp 6)), (some 42, some (40, true), .ldA 8 (.tmp 9)), (some 43, some (40, true), .call f_contain_Within [(.tmp 41), (.tmp 42)]), (some 44, none, .pick (.tmp 40) (.tmp 43) (.const (.bool false))), (some 45, none, .mv (.tmp 44)), (some 46, some (45, true), .ldA 8 (.tmp 5)), (some 47, some (45, true), .ldA 8 (.tmp 9)), (some 48, some (45, true), .call f_contain_Within [(.tmp 46), (.tmp 47)]), (some 49, some (45, true), .un .not (.tmp 48)), (some 50, none, .pick (.tmp 45) (.tmp 49) (.const (.bool false))), (some 51, none, .mv (.tmp 50)), (some 52, some (51, false),
 .ldA 8 (.tmp 5)), (some 53, some (51, false), .ldA 8 (.tmp 6)), (some 54, some (51, false), .call f_contain_Within [(.tmp 52), (.tmp 53)]), (some 55, some (51, false), .mv (.tmp 54)), (some 56, some (55, true), .ldA 8 (.tmp 6)), (some 57, some (55, true), .ldA 8 (.tmp 5)), (some 58, some (55, true), .call f_contain_Within [(.tmp 56), (.tmp 57)]), (some 59, some (51, false), .pick (.tmp 55) (.tmp 58) (.const (.bool false))), (some 60, some (51, false), .mv (.tmp 59)), (some 61, some (60, true), .ldA 8 (.tmp 5)), (some 62, some (60, true), .ldA 8 (.tmp 6)), (some 63, some (60, true), .call f_contain_Same [(.tmp 61), (.tmp 62)]), (some 64, some (60, true), .un .not (.tmp 63)), (some 65, some (51, false), .pick (.tmp 60) (.tmp 64) (.const (.bool false))), (some 66, none, .pick (.tmp 51) (.const (.bool true)) (.tmp 65))]) (.cond (.tmp 66) (.seq (.reg [(some 4, none, .mv (.const (.bool false)))]) .ret) .skip)) (law09_ContainOrder_BC_j1 f_authority_Meet f_contain_Within f_contain_Same f_law09_awake))))))))
end Go.PE
namespace Go.PE
open Go
def tz (x : Int) : Nat := Lib.ctz 64 x.toNat
theorem tz_spec {x : Int} (hx : isU64 x) (h : x ≠ 0) : tz x < 64 ∧ tb x (tz x) = true ∧ ∀ j, j < tz x → tb x j = false := by
  obtain ⟨n, rfl, hn⟩ := u64_nat hx
  have h0 : n ≠ 0 := fun e => h (by rw [e]; rfl)
  obtain ⟨m, hm, hk⟩ := Lib.ctzFrom_spec 64 n (by omega) hn
  have e : tz (n : Int) = Lib.ctzFrom 64 n := by simp [tz, Lib.ctz, h0]
  rw [e]
  unfold tb
  rw [Int.toNat_natCast]
  generalize Lib.ctzFrom 64 n = k at *
  rw [hm]
  refine ⟨hk, ?_, fun j hj => ?_⟩
  · rw [Nat.mul_comm, Nat.testBit_mul_two_pow]; simp [Nat.testBit_zero]
  · rw [Nat.mul_comm, Nat.testBit_mul_two_pow]; simp; omega
theorem tz_uniq {x : Int} (hx : isU64 x) (h : x ≠ 0) {k : Nat} (h1 : tb x k = true) (h2 : ∀ j, j < k → tb x j = false) : tz x = k := by
  obtain ⟨_, a, b⟩ := tz_spec hx h
  rcases Nat.lt_trichotomy (tz x) k with e | e | e
  · rw [h2 _ e] at a; cases a
  · exact e
  · rw [b _ e] at h1; cases h1
def dbRow : List Value := Lib.deBruijn64tab.map fun n : Nat => Value.int .u8 (n : Int)
theorem unV_neg (k : IntKind) (n : Int) : unV .neg (.int k n) = some (.int k (k.wrap (0 - n))) := _root_.id rfl
theorem dbRow_at {i k : Nat} (hi : i < 64) (h : Lib.deBruijn64tab.getD i 0 = k) : dbRow[i]? = some (.int .u8 k) := by
  unfold dbRow
  have hl : i < Lib.deBruijn64tab.length := by exact hi
  rw [List.getElem?_map, List.getElem?_eq_getElem hl]
  rw [List.getD_eq_getElem?_getD, List.getElem?_eq_getElem hl] at h
  simp at h ⊢
  omega
theorem db_key {x : Int} (hx : isU64 x) (h : x ≠ 0) : ∃ i : Nat, i < 64 ∧ (IntKind.u64.wrap (bitsV .and .u64 x (IntKind.u64.wrap (-x)) * 285870213051353865)).fdiv 288230376151711744 = (i : Int) ∧ dbRow[i]? = some (.int .u8 (tz x)) ∧ tz x < 64 := by
  obtain ⟨n, rfl, hn⟩ := u64_nat hx
  have hn0 : n ≠ 0 := fun e => h (by rw [e]; rfl)
  obtain ⟨hlow, hk⟩ := Lib.lowest_bit 64 n hn0 hn
  obtain ⟨hi, ht⟩ := Lib.deBruijn64_at _ hk
  have e0 : tz (n : Int) = Lib.ctz 64 n := rfl
  have e1 : IntKind.u64.wrap (-(n : Int)) = ((2 ^ 64 - n : Nat) : Int) := by rw [IntKind.wrap_u64]; omega
  have e2 : bitsV .and .u64 (n : Int) ((2 ^ 64 - n : Nat) : Int) = ((2 ^ Lib.ctz 64 n : Nat) : Int) := by
    rw [and_u64 hx ⟨by omega, by omega⟩, Int.toNat_natCast, Int.toNat_natCast, hlow]
  rw [e0, e1, e2]
  refine ⟨_, hi, ?_, dbRow_at hi ht, hk⟩
  generalize (2 ^ Lib.ctz 64 n : Nat) = q
  have e3 : IntKind.u64.wrap ((q : Int) * 285870213051353865) = ((q * 285870213051353865 % 18446744073709551616 : Nat) : Int) := by
    rw [IntKind.wrap_u64]; omega
  have e4 : (2 : Nat) ^ 58 = 288230376151711744 := by decide +kernel
  have e5 : (288230376151711744 : Int) = 2 ^ 58 := by decide +kernel
  rw [e3, e5, shr_nat (by omega), Int.toNat_natCast, e4]
def TzOK (P : Program) (f g : Nat) : Prop := ∀ (x : Int), isU64 x → ∀ (H : Nat → Option (List Value)) (nx : Nat), H g = some dbRow → g < nx → PCalls P f [.int .u64 x] H nx (fun _ => False) (fun r H' _ => r = .int .i64 (tz x) ∧ H' = H)
theorem tz_ok {P : Program} {f g : Nat} (hc : compFnX P [3000000] f = some (14, math_bits_TrailingZeros64_BC g, [.t 2])) : TzOK P f g := by
  intro x hx H nx hg hgn
  refine PCalls_ofX hc (by simp) fun hw => ?_
  by_cases h0 : x = 0
  · subst h0
    simp [math_bits_TrailingZeros64_BC]
    exact wF_of ⟨rfl, rfl⟩
  · obtain ⟨i, hi, hkey, hd, hk⟩ := db_key hx h0
    have e5 : (i : Int) < 64 := by omega
    have q3 : IntKind.u64.bits = 64 := rfl
    have w1 := w64 (x := (tz x : Int)) (by omega) (by omega)
    have hb : (x == 0) = false := by simpa using h0
    have ht : i * 1 = i := by omega
    simp [math_bits_TrailingZeros64_BC, math_bits_TrailingZeros64_BC_j1, h0, hb, hg, unV_neg, q3, hkey, hi, e5, hd, w1]
    exact wF_of ⟨rfl, rfl⟩
def LowOK (P : Program) (f : Nat) : Prop := ∀ (x : Int), isU64 x → x ≠ 0 → ∀ (H : Nat → Option (List Value)) (nx : Nat), PCalls P f [.int .u64 x] H nx (fun _ => False) (fun r H' _ => r = .int .i64 (tz x) ∧ H' = H)
/-! the first bit of a that is none of b -/
def FirstOK (P : Program) (f g : Nat) : Prop := ∀ (a b : Int), isU64 a → isU64 b → ∀ (H : Nat → Option (List Value)) (nx : Nat), H g = some dbRow → g < nx → PCalls P f [.int .u64 a, .int .u64 b] H nx (fun _ => False) (fun r H' _ => r = tup [.int .i64 (tz (bitsV .andNot .u64 a b)), .bool (decide (bitsV .andNot .u64 a b ≠ 0))] ∧ H' = H)
theorem not_isU64 {a b : Int} : isU64 (bitsV .andNot .u64 a b) := by
  show isU64 (IntKind.u64.wrap _)
  rw [IntKind.wrap_u64]
  exact ⟨by omega, by omega⟩
theorem first_ok {P : Program} {f g tz : Nat} (hc : compFnX P [3000000] f = some (14, contain_first_BC tz, [.t 4, .t 5])) (htz : TzOK P tz g) : FirstOK P f g := by
  intro a b ha hb H nx hg hgn
  refine PCalls_ofX hc (by simp) fun hw => ?_
  simp [contain_first_BC]
  refine wCall_eq (Q := fun r => r = _) (htz _ not_isU64 _ _ hg hgn) fun r n1 hr hn1 => ?_
  subst hr
  simp
  exact wF_of ⟨by congr 1, rfl⟩
theorem tb_not {a b : Int} (ha : isU64 a) (hb : isU64 b) (j : Nat) : tb (bitsV .andNot .u64 a b) j = (tb a j && !tb b j) := by
  obtain ⟨n, rfl, hn⟩ := u64_nat ha
  obtain ⟨m, rfl, hm⟩ := u64_nat hb
  unfold tb bitsV
  show (IntKind.u64.wrap ((BitVec.ofInt 64 (n : Int) &&& ~~~BitVec.ofInt 64 (m : Int)).toNat : Int)).toNat.testBit j = _
  rw [wrap_nat (BitVec.isLt _), Int.toNat_natCast, BitVec.testBit_toNat, BitVec.getLsbD_and, BitVec.getLsbD_not, ← BitVec.testBit_toNat, ← BitVec.testBit_toNat, ofInt_toNat hn, ofInt_toNat hm, Int.toNat_natCast, Int.toNat_natCast]
  by_cases h : j < 64
  · simp [h]
  · have : n.testBit j = false := Nat.testBit_lt_two_pow (Nat.lt_of_lt_of_le hn (Nat.pow_le_pow_right (by omega) (by omega)))
    simp [this]
end Go.PE
namespace Go.PE
open Go
def othF (a b : Aut) : ByteArray × Bool := if b.holder = noName ∨ a.holder = b.holder then (noName, false) else if a.holder ≠ noName then (a.holder, true) else if b.holder = nmA then (nmB, true) else (nmA, true)
def OthOK (P : Program) (f : Nat) : Prop := ∀ (a b : Aut) (H : Nat → Option (List Value)) (nx : Nat), PCalls P f [a.v, b.v] H nx (fun _ => False) (fun r H' _ => r = tup [.string (othF a b).1, .bool (othF a b).2] ∧ H' = H)
theorem toL_iff (b c : ByteArray) : b.toList = c.toList ↔ b = c := by
  have e : ∀ b : ByteArray, b.toList = b.data.toList := fun b => by simp [ByteArray.toList_eq]
  rw [e, e]
  constructor
  · intro h; exact ByteArray.ext (Array.toList_inj.1 h)
  · intro h; rw [h]
theorem nmA_list : nmA.toList = [97] := by simp [ByteArray.toList_eq, nmA]
theorem em1 {x : ByteArray} (h : x = noName) : x.toList = [] ∧ x.toList.isEmpty = true := by
  have h1 : x.toList = [] := (noName_iff _).2 h
  exact ⟨h1, by rw [h1]; rfl⟩
theorem em2 {x : ByteArray} (h : ¬ x = noName) : ¬ x.toList = [] ∧ x.toList.isEmpty = false := by
  have h1 : ¬ x.toList = [] := fun e => h ((noName_iff _).1 e)
  exact ⟨h1, by simpa using h1⟩
theorem oth_core {P : Program} {a b : Aut} {H : Nat → Option (List Value)} {nx : Nat} {c : PC} (hc : c = contain_holder_BC ∨ c = ref06_other_BC) (hw : ∀ k, nx ≤ k → H k = none) :
    wpc (PCalls P) P (fun _ => False) nx c (fin nx [RV.t 4, RV.t 5] fun r H' _ => r = tup [.string (othF a b).1, .bool (othF a b).2] ∧ H' = H) ⟨PE.start [a.v, b.v], H, nx⟩ := by
  have b3 : ¬ nx = nx + 1 := by omega
  have b5 : nx ≤ nx + 1 := by omega
  have b6 : ¬ nx + 1 = nx := by omega
  have en : ∀ {H2 : Nat → Option (List Value)} {n2 : Nat} {n : ByteArray} {o : Bool}, othF a b = (n, o) → Own nx H H2 → wF (some [.string n, .bool o]) nx (fun r H' _ => r = tup [.string (othF a b).1, .bool (othF a b).2] ∧ H' = H) H2 n2 := fun {H2 n2 n o} h ho => wF_own hw ho ⟨by rw [h]; rfl, rfl⟩
  by_cases c1 : b.holder = noName
  · obtain ⟨g1, g2⟩ := em1 c1
    have e : othF a b = (noName, false) := if_pos (.inl c1)
    rcases hc with rfl | rfl
    · simp [contain_holder_BC, b3, b5, b6, g1, g2]
      refine en e ?_
      simp [b5]
    · simp [ref06_other_BC, b3, b5, b6, g1, g2]
      refine en e ?_
      simp [b5]
  · obtain ⟨g1, g2⟩ := em2 c1
    by_cases c2 : a.holder = b.holder
    · have c2' : (a.holder == b.holder) = true := by simp [c2]
      have e : othF a b = (noName, false) := if_pos (.inr c2)
      rcases hc with rfl | rfl
      · simp [contain_holder_BC, b3, b5, b6, g1, g2, c2']
        refine en e ?_
        simp [b5]
      · simp [ref06_other_BC, b3, b5, b6, g1, g2, c2']
        refine en e ?_
        simp [b5]
    · have c2' : (a.holder == b.holder) = false := by simp [c2]
      have e0 : ¬ (b.holder = noName ∨ a.holder = b.holder) := fun h => h.elim c1 c2
      by_cases c3 : a.holder = noName
      · obtain ⟨g3, g4⟩ := em1 c3
        by_cases c4 : b.holder = nmA
        · have c4' : (b.holder.toList == [97]) = true := by rw [c4, nmA_list]; rfl
          have e : othF a b = (nmB, true) := by unfold othF; rw [if_neg e0, if_neg (by simp [c3]), if_pos c4]
          rcases hc with rfl | rfl
          · simp [contain_holder_BC, b3, b5, b6, g1, g2, g3, g4, c2', c4']
            refine en e ?_
            simp [b5]
          · simp [ref06_other_BC, b3, b5, b6, g1, g2, g3, g4, c2', c4']
            refine en e ?_
            simp [b5]
        · have c4' : (b.holder.toList == [97]) = false := by
            rw [Bool.eq_false_iff]; intro h
            exact c4 ((toL_iff _ _).1 ((beq_iff_eq.1 h).trans nmA_list.symm))
          have e : othF a b = (nmA, true) := by unfold othF; rw [if_neg e0, if_neg (by simp [c3]), if_neg c4]
          rcases hc with rfl | rfl
          · simp [contain_holder_BC, b3, b5, b6, g1, g2, g3, g4, c2', c4']
            refine en e ?_
            simp [b5]
          · simp [ref06_other_BC, b3, b5, b6, g1, g2, g3, g4, c2', c4']
            refine en e ?_
            simp [b5]
      · obtain ⟨g3, g4⟩ := em2 c3
        have e : othF a b = (a.holder, true) := by unfold othF; rw [if_neg e0, if_pos c3]
        rcases hc with rfl | rfl
        · simp [contain_holder_BC, b3, b5, b6, g1, g2, g3, g4, c2']
          refine en e ?_
          simp [b5]
        · simp [ref06_other_BC, b3, b5, b6, g1, g2, g3, g4, c2']
          refine en e ?_
          simp [b5]
theorem holder_c {P : Program} {f : Nat} (hc : compFnX P [3000000] f = some (27, contain_holder_BC, [.t 4, .t 5])) : OthOK P f := fun a b H nx => PCalls_ofX hc (by simp) fun hw => oth_core (.inl rfl) hw
/-! the first context -/
def leastF (a : Aut) : Ctx := ⟨tz a.zones, tz a.lines, a.fr, if a.holder = noName then nmA else a.holder⟩
def zeroC : Ctx := ⟨0, 0, 0, noName⟩
def LeastOK (P : Program) (f g : Nat) : Prop := ∀ (a : Aut), a.wf → ∀ (H : Nat → Option (List Value)) (nx : Nat), H g = some dbRow → g < nx → PCalls P f [a.v] H nx (fun _ => False) (fun r H' _ => r = (leastF a).v ∧ H' = H)
theorem least_ok {P : Program} {f g tz_ : Nat} (hc : compFnX P [3000000] f = some (20, contain_least_BC tz_, [.cA 2 4])) (htz : TzOK P tz_ g) : LeastOK P f g := by
  intro a hwf H nx hg hgn
  refine PCalls_ofX hc (by simp) fun hw => ?_
  have g1 : ¬ g = nx := by omega
  have g2 : ¬ g = nx + 1 := by omega
  have b3 : ¬ nx = nx + 1 := by omega
  have b5 : nx ≤ nx + 1 := by omega
  have b6 : ¬ nx + 1 = nx := by omega
  have tzc : ∀ {x : Int} {s : PS} {d : Option Nat} {K : PS → Prop}, isU64 x → s.H g = some dbRow → g < s.nx → K ⟨(s.putO d (.int .i64 (tz x))).t, s.H, s.nx⟩ → wmCall (PCalls P) tz_ [.int .u64 x] d s K :=
    fun hx hg hgn hK => wmCall_of _ (fun n H2 hn hH => htz _ hx H2 n (hH _ _ hg) (by omega)) hK
  have en : ∀ {H2 : Nat → Option (List Value)} {n2 : Nat} {n : ByteArray}, n = (leastF a).holder → Own nx H H2 → wF (some [ag [.int .i64 (tz a.zones), .int .i64 (tz a.lines), .int .i64 a.fr, .string n]]) nx (fun r H' _ => r = (leastF a).v ∧ H' = H) H2 n2 := fun {H2 n2 n} h ho => wF_own hw ho ⟨by rw [h]; rfl, rfl⟩
  simp [contain_least_BC, b3, b5, b6]
  refine tzc hwf.zu (by simp [g1, g2, hg]) (by show g < nx + 1 + 1; omega) ?_
  simp [b3, b5, b6]
  refine tzc hwf.lu (by simp [g1, g2, hg]) (by show g < nx + 1 + 1; omega) ?_
  simp [b3, b5, b6]
  intro n hn m hm
  have d1 : nx ≤ n := by omega
  have d2 : ¬ n = nx + 1 := by omega
  have d3 : ¬ nx + 1 = n := by omega
  have d4 : ¬ nx = n := by omega
  by_cases c1 : a.holder = noName
  · obtain ⟨h1, h2⟩ := em1 c1
    simp [b3, b5, b6, d1, d2, d3, d4, h1, h2]
    intro k _
    refine en (by show nmA = if a.holder = noName then nmA else a.holder; rw [if_pos c1]) ?_
    simp [b5, d1]
  · obtain ⟨h1, h2⟩ := em2 c1
    simp [b3, b5, b6, d1, d2, d3, d4, h1, h2]
    intro k _
    refine en (by show a.holder = if a.holder = noName then nmA else a.holder; rw [if_neg c1]) ?_
    simp [b5, d1]
end Go.PE
namespace Go.PE
open Go
/-- the laid variables are there -/
structure LV (g gd : Nat) (H : Nat → Option (List Value)) (nx : Nat) : Prop where
  b : H g = some bitsRow
  d : H gd = some dbRow
  bn : g < nx
  dn : gd < nx
theorem LV.up {g gd nx k : Nat} {H : Nat → Option (List Value)} {r : Option (List Value)} (h : LV g gd H nx) (hk : nx ≤ k) {nx' : Nat} (hn : nx ≤ nx') : LV g gd (upd H k r) nx' :=
  ⟨by rw [upd_ne _ _ (by have := h.bn; omega)]; exact h.b, by rw [upd_ne _ _ (by have := h.dn; omega)]; exact h.d, by have := h.bn; omega, by have := h.dn; omega⟩
theorem LV.le {g gd nx : Nat} {H H2 : Nat → Option (List Value)} (h : LV g gd H nx) (hH : LeH H H2) {nx' : Nat} (hn : nx ≤ nx') : LV g gd H2 nx' := ⟨hH _ _ h.b, hH _ _ h.d, by have := h.bn; omega, by have := h.dn; omega⟩
theorem LV.nx {g gd nx : Nat} {H : Nat → Option (List Value)} (h : LV g gd H nx) {nx' : Nat} (hn : nx ≤ nx') : LV g gd H nx' := ⟨h.b, h.d, by have := h.bn; omega, by have := h.dn; omega⟩
end Go.PE
namespace Go.PE
open Go
/-- the first one -/
def WoR (la lb : List Spn) (m : Int) (o : Bool) : Prop := (o = true ∧ inS la m ∧ ¬ inS lb m ∧ ∀ k, inS la k → ¬ inS lb k → m ≤ k) ∨ (o = false ∧ m = 0 ∧ ∀ k, inS la k → inS lb k)
def WoV (la lb : List Spn) (r : Value) : Prop := ∃ m o, r = tup [.int .i64 m, .bool o] ∧ WoR la lb m o
def inDay (l : List Spn) : Prop := ∀ s ∈ l, 0 ≤ s.f ∧ s.t < 1440
def WoOK (P : Program) (f : Nat) : Prop := ∀ (la lb : List Spn), canon (-1) la → inDay la → inDay lb → la.length ≤ 1000000 → lb.length ≤ 1000000 → ∀ (H : Nat → Option (List Value)) (nx : Nat),
    PCalls P f [deep (la.map Spn.v), deep (lb.map Spn.v)] H nx (fun _ => False) (fun r H' _ => WoV la lb r ∧ H' = H)
theorem canon_behind : ∀ {l : List Spn} {b : Int} {i : Nat} {x : Spn}, canon b l → l[i]? = some x → canon (x.t + 1) (l.drop (i + 1))
  | [], _, _, _, _, h => by simp at h
  | y :: r, b, 0, x, hc, h => by
    simp at h; subst h
    simpa using hc.2.2
  | y :: r, b, i + 1, x, hc, h => by
    have := canon_behind (i := i) hc.2.2 (by simpa using h)
    simpa using this
theorem inS_at {l : List Spn} {i : Nat} {x : Spn} (h : l[i]? = some x) (k : Int) : inS l k ↔ inS (l.take i) k ∨ (x.f ≤ k ∧ k ≤ x.t) ∨ inS (l.drop (i + 1)) k := by
  have hlt : i < l.length := (List.getElem?_eq_some_iff.1 h).1
  have hx : l[i] = x := (List.getElem?_eq_some_iff.1 h).2
  have e : l = l.take i ++ x :: l.drop (i + 1) := by
    rw [← hx, ← List.drop_eq_getElem_cons hlt, List.take_append_drop]
  rw [show inS l k ↔ inS (l.take i ++ x :: l.drop (i + 1)) k by rw [← e], inS_append, inS_cons]
theorem take_step {l : List Spn} {i : Nat} {x : Spn} (h : l[i]? = some x) (k : Int) : inS (l.take (i + 1)) k ↔ inS (l.take i) k ∨ (x.f ≤ k ∧ k ≤ x.t) := by
  have hlt : i < l.length := (List.getElem?_eq_some_iff.1 h).1
  have hx : l[i] = x := (List.getElem?_eq_some_iff.1 h).2
  rw [List.take_succ_eq_append_getElem hlt, hx, inS_append, inS_cons]
  simp [inS_nil]
/-- what stays in a round of the outer loop -/
structure WoI (la lb : List Spn) (i : Nat) (nx : Nat) (H : Nat → Option (List Value)) (s : PS) : Prop where
  t0 : s.t 0 = deep (la.map Spn.v)
  t1 : s.t 1 = deep (lb.map Spn.v)
  t11 : s.t 11 = deep (la.map Spn.v)
  t12 : s.t 12 = .int .i64 la.length
  t13 : s.t 13 = .int .i64 i
  own : Own nx H s.H
  nx : nx ≤ s.nx
theorem without_ok {P : Program} {f : Nat} (hc : compFnX P [3000000] f = some (51, contain_without_BC, [.t 4, .t 5])) : WoOK P f := by
  intro la lb hca hda hdb hla hlb H nx
  refine PCalls_ofX hc (by simp) fun hw => ?_
  have hmx : (maxLen : Int) = 9223372036854775807 := rfl
  simp [contain_without_BC]
  obtain ⟨I, hI⟩ : ∃ I : PS → Prop, ∀ s, I s ↔ ∃ i : Nat, i ≤ la.length ∧ WoI la lb i nx H s ∧ ∀ k, inS (la.take i) k → inS lb k := ⟨_, fun _ => Iff.rfl⟩
  refine wpc_loop _ _ _ _ _ _ I (fun s => match s.t 13 with | .int _ i => (la.length - i).toNat | _ => 0) _ ((hI _).2 ⟨0, by omega, ⟨by simp, by simp, by simp, by simp, by simp, by simp, by simp⟩, by simp [inS_nil]⟩) ?_
  intro s hs
  obtain ⟨i, hi, hW, hcov⟩ := (hI _).1 hs
  obtain ⟨T, H', nx'⟩ := s
  have e0 := hW.t0; have e1 := hW.t1; have e11 := hW.t11; have e12 := hW.t12; have e13 := hW.t13; have hown := hW.own; have hnx := hW.nx
  simp only at e0 e1 e11 e12 e13 hown hnx
  simp [e12, e13]
  refine wB_of (fun hlt => ?_) (fun hlt => ?_)
  · simp at hlt
    have he := elem_spn (l := la) (n := (i : Int)) (by omega) (by simpa using hlt)
    simp at he
    have hx : la[i]? = some la[i] := List.getElem?_eq_getElem hlt
    have hw1 := w64 (x := (i : Int) + 1) (by omega) (by omega)
    generalize la[i] = x at he hx
    have hxd := hda x (List.mem_of_getElem? hx)
    simp [contain_without_BC_j1, e11, e13, he, hnx, Spn.ag]
    -- the label
    obtain ⟨J, hJ⟩ : ∃ J : PS → Prop, ∀ s, J s ↔ ∃ m : Int, WoI la lb i nx H s ∧ nx' < s.nx ∧ s.t 7 = ptr nx' 0 ∧ s.H nx' = some x.cells ∧ s.t 8 = .int .i64 m ∧ x.f ≤ m ∧ m ≤ 1440 ∧ ∀ k, x.f ≤ k → k < m → inS lb k := ⟨_, fun _ => Iff.rfl⟩
    have hxx := (canon_mem hca (List.mem_of_getElem? hx)).2
    refine wpc_scope _ _ _ _ _ _ J (fun s => match s.t 8 with | .int _ m => (x.t + 1 - m).toNat | _ => 0) 0 _ _ ?_ ?_
    · simp
      exact (hJ _).2 ⟨x.f, ⟨by simp [e0], by simp [e1], by simp [e11], by simp [e12], by simp [e13], by simp [hnx, hown], by show nx ≤ nx' + 1; omega⟩, by simp, by simp, by simp, by simp, Int.le_refl _, by omega, fun k h1 h2 => by omega⟩
    · intro s hs
      obtain ⟨m, hW2, hn2, f7, hHx, f8, hxm, hm0, hmc⟩ := (hJ _).1 hs
      obtain ⟨T2, H2, n2⟩ := s
      have f0 := hW2.t0; have f1 := hW2.t1; have f11 := hW2.t11; have f12 := hW2.t12; have f13 := hW2.t13; have hown2 := hW2.own
      simp only at f0 f1 f11 f12 f13 hown2 hn2 f7 hHx f8
      simp [f1]
      obtain ⟨K, hK⟩ : ∃ K : PS → Prop, ∀ s, K s ↔ ∃ j : Nat, j ≤ lb.length ∧ WoI la lb i nx H s ∧ nx' < s.nx ∧ s.t 7 = ptr nx' 0 ∧ s.H nx' = some x.cells ∧ s.t 8 = .int .i64 m ∧ s.t 19 = deep (lb.map Spn.v) ∧ s.t 20 = .int .i64 lb.length ∧ s.t 21 = .int .i64 j ∧ ∀ t ∈ lb.take j, ¬ (t.f ≤ m ∧ m ≤ t.t ∧ m ≤ x.t) := ⟨_, fun _ => Iff.rfl⟩
      refine wpc_loop _ _ _ _ _ _ K (fun s => match s.t 21 with | .int _ j => (lb.length - j).toNat | _ => 0) _ ((hK _).2 ⟨0, by omega, ⟨by simp [f0], by simp [f1], by simp [f11], by simp [f12], by simp [f13], hown2, by show nx ≤ n2; omega⟩, hn2, by simp [f7], hHx, by simp [f8], by simp, by simp, by simp, by simp⟩) ?_
      intro s hs
      obtain ⟨j, hj, hW3, hn3, g7, hHx3, g8, g19, g20, g21, hno⟩ := (hK _).1 hs
      obtain ⟨T3, H3, n3⟩ := s
      have g0 := hW3.t0; have g1 := hW3.t1; have g11 := hW3.t11; have g12 := hW3.t12; have g13 := hW3.t13; have hown3 := hW3.own
      simp only at g0 g1 g11 g12 g13 hown3 hn3 g7 hHx3 g8 g19 g20 g21
      simp [g20, g21]
      refine wB_of (fun hlt2 => ?_) (fun hlt2 => ?_)
      · simp at hlt2
        have he2 := elem_spn (l := lb) (n := (j : Int)) (by omega) (by simpa using hlt2)
        simp at he2
        have hy : lb[j]? = some lb[j] := List.getElem?_eq_getElem hlt2
        have htk : lb.take (j + 1) = lb.take j ++ [lb[j]] := List.take_succ_eq_append_getElem hlt2
        have hw2 := w64 (x := (j : Int) + 1) (by omega) (by omega)
        generalize lb[j] = y at he2 hy htk
        have hyd := hdb y (List.mem_of_getElem? hy)
        have k1 : ¬ nx' = n3 := by omega
        have k2 : nx ≤ n3 := by omega
        have nxt : ∀ {T4 : Nat → Value}, (T4 0 = T3 0 ∧ T4 1 = T3 1 ∧ T4 7 = T3 7 ∧ T4 8 = T3 8 ∧ T4 11 = T3 11 ∧ T4 12 = T3 12 ∧ T4 13 = T3 13 ∧ T4 19 = T3 19 ∧ T4 20 = T3 20) → T4 21 = .int .i64 (j + 1 : Nat) → ¬ (y.f ≤ m ∧ m ≤ y.t ∧ m ≤ x.t) →
            K ⟨T4, upd H3 n3 (some y.cells), n3 + 1⟩ := fun {T4} ⟨a0, a1, a7, a8, a11, a12, a13, a19, a20⟩ a21 h2 => (hK _).2 ⟨j + 1, by omega, ⟨a0.trans g0, a1.trans g1, a11.trans g11, a12.trans g12, a13.trans g13, by simp [k2, hown3], by show nx ≤ n3 + 1; omega⟩, by show nx' < n3 + 1; omega, a7.trans g7, by simp [k1, hHx3], a8.trans g8, a19.trans g19, a20.trans g20, a21, fun t ht => by
            rw [htk] at ht
            rcases List.mem_append.1 ht with h | h
            · exact hno t h
            · simp at h; subst h; exact h2⟩
        have jmp : ∀ {T4 : Nat → Value}, (T4 0 = T3 0 ∧ T4 1 = T3 1 ∧ T4 7 = T3 7 ∧ T4 11 = T3 11 ∧ T4 12 = T3 12 ∧ T4 13 = T3 13 ∧ T4 8 = .int .i64 (y.t + 1)) → y.f ≤ m → m ≤ y.t →
            J ⟨T4, upd H3 n3 (some y.cells), n3 + 1⟩ := fun {T4} ⟨a0, a1, a7, a11, a12, a13, a8⟩ h2 h3 => (hJ _).2 ⟨y.t + 1, ⟨a0.trans g0, a1.trans g1, a11.trans g11, a12.trans g12, a13.trans g13, by simp [k2, hown3], by show nx ≤ n3 + 1; omega⟩, by show nx' < n3 + 1; omega, a7.trans g7, by simp [k1, hHx3], a8, by omega, by omega, fun k h4 h5 => by
            by_cases h6 : k < m
            · exact hmc k h4 h6
            · exact ⟨y, List.mem_of_getElem? hy, by omega, by omega⟩⟩
        by_cases c1 : y.f ≤ m
        · by_cases c2 : m ≤ y.t
          · by_cases c3 : m ≤ x.t
            · have hw3 := w64 (x := y.t + 1) (by omega) (by omega)
              simp [g7, g8, g19, g21, he2, hHx3, k1, k2, c1, c2, c3, hw3, Spn.ag]
              exact kS2_go _ _ _ _ (Sub_refl _ _) (jmp ⟨rfl, rfl, rfl, rfl, rfl, rfl, rfl⟩ c1 c2) (by simp [f8]; omega)
            · simp [g7, g8, g19, g21, he2, hHx3, k1, k2, c1, c2, c3, hw2, Spn.ag]
              exact kLoop_nrm _ _ _ _ (Sub_refl _ _) (nxt ⟨rfl, rfl, rfl, rfl, rfl, rfl, rfl, rfl, rfl⟩ rfl (fun h => c3 h.2.2)) (by simp [g21]; omega)
          · simp [g7, g8, g19, g21, he2, hHx3, k1, k2, c1, c2, hw2, Spn.ag]
            exact kLoop_nrm _ _ _ _ (Sub_refl _ _) (nxt ⟨rfl, rfl, rfl, rfl, rfl, rfl, rfl, rfl, rfl⟩ rfl (fun h => c2 h.2.1)) (by simp [g21]; omega)
        · simp [g7, g8, g19, g21, he2, hHx3, k1, k2, c1, hw2, Spn.ag]
          exact kLoop_nrm _ _ _ _ (Sub_refl _ _) (nxt ⟨rfl, rfl, rfl, rfl, rfl, rfl, rfl, rfl, rfl⟩ rfl (fun h => c1 h.1)) (by simp [g21]; omega)
      · simp at hlt2
        have hj2 : j = lb.length := by omega
        subst hj2
        rw [List.take_length] at hno
        by_cases c1 : m ≤ x.t
        · have hnm : ¬ inS lb m := fun ⟨t, ht, h1, h2⟩ => hno t ht ⟨h1, h2, c1⟩
          simp [g7, g8, hHx3, c1]
          refine wF_own hw (by simpa using hown3) ⟨⟨m, true, rfl, .inl ⟨rfl, (inS_at hx m).2 (.inr (.inl ⟨hxm, c1⟩)), hnm, fun k h1 h2 => ?_⟩⟩, rfl⟩
          rcases (inS_at hx k).1 h1 with h | h | h
          · exact absurd (hcov k h) h2
          · exact Int.not_lt.1 fun h3 => h2 (hmc k h.1 h3)
          · have := canon_lt (canon_behind hca hx) h
            omega
        · simp [g7, g8, hHx3, c1, g13, hw1]
          refine kLoop_nrm _ _ _ _ (Sub_refl _ _) ((hI _).2 ⟨i + 1, by omega, ⟨by simp [g0], by simp [g1], by simp [g11], by simp [g12], by simp, by simpa using hown3, by show nx ≤ n3; omega⟩, fun k hk => ?_⟩) (by simp [e13]; omega)
          rcases (take_step hx k).1 hk with h | h
          · exact hcov k h
          · exact hmc k h.1 (by omega)
  · simp at hlt
    have hia : i = la.length := by omega
    subst hia
    rw [List.take_length] at hcov
    exact wF_own hw hown ⟨⟨0, false, rfl, .inr ⟨rfl, rfl, hcov⟩⟩, rfl⟩
end Go.PE
namespace Go.PE
open Go
def leI (x y : Int) : Bool := decide (x ≤ y)
def SortIOK (P : Program) (f : Nat) : Prop := ∀ (zs rest : List Int) (k cap : Nat) (H : Nat → Option (List Value)) (nx : Nat), zs.length < 4611686018427387904 → H k = some ((zs ++ rest).map (.int .i64)) →
    PCalls P f [slc k 0 zs.length cap] H nx (fun j => j = k) (fun p H' nx' => p = tup [] ∧ nx' = nx ∧ H' = upd H k (some ((zs.mergeSort leI ++ rest).map (.int .i64))))
theorem sorti_pc {P : Program} {ρ : Go.Shelf.Ren} (L : Go.Proofs.Lays.n189 P ρ) : SortIOK P (ρ.f 189) := by
  intro zs rest k cap H nx hlen hk G own vs hE hvl hrd
  match vs, hvl with
  | [v1], _ =>
    have h1 := hrd 0 v1 _ rfl rfl
    obtain ⟨b, rfl, hnc, hkn, hbe⟩ := slc_rd h1
    obtain ⟨b', e', cs, fz, hb', hh, hsize, hcells, hW, hBB⟩ := hE.heap.ob k _ hk
    obtain ⟨hfr, rfl⟩ := hW (.inl rfl)
    have hbb : b' = b := by
      rcases hbe with hbe | hbe
      · rw [hb'] at hbe; exact Option.some.inj hbe
      · rw [hb'] at hbe; cases hbe
    subst hbb
    have hsz : cs.size = zs.length + rest.length := by rw [hsize]; simp
    have hcs : ∀ t (ht : t < zs.length + rest.length), cs[t]? = some (.int .i64 ((zs ++ rest)[t]'(by simpa using ht))) := fun t ht => by
      have hlt : t < cs.size := by omega
      have h3 : ((zs ++ rest).map (Value.int .i64))[t]? = some (.int .i64 ((zs ++ rest)[t]'(by simpa using ht))) := by
        rw [List.getElem?_map, List.getElem?_eq_getElem (by simpa using ht)]; rfl
      have h4 := hcells t cs[t] _ (Array.getElem?_eq_getElem hlt) h3
      rw [Array.getElem?_eq_getElem hlt, plain_eq h4.2 rfl]
    have hH : Go.Sort.Holds (Value.int .i64) G.w b' 0 zs.toArray := by
      intro j hj
      have hj' : j < zs.length := by simpa using hj
      constructor
      · rw [Nat.zero_add, cell_of_row _ _ _ _ _ _ hh, hcs j (by omega), arr_get! zs j hj', List.getElem_append_left hj']
      · unfold World.frozen?
        simp [hh]
    have hcon := Go.calls_of_every_depth fun D => Go.Proofs.AnyS.slices_Sort_int_in L D b' 0 cap zs G.w hH (by exact (hE.heap.be_lt hb').2.1) hlen
    refine hcon.mono fun e w' hp => ?_
    obtain ⟨rfl, n, os, rfl⟩ := hp
    obtain ⟨zs', hzs⟩ : ∃ zs' : List Int, zs' = zs.mergeSort leI := ⟨_, rfl⟩
    have hl' : zs'.length = zs.length := by rw [hzs]; simp
    have hpc : (Go.Sort.putCells (Value.int .i64) 0 zs'.toArray cs).size = cs.size := by simp [Go.Sort.putCells]
    have hrow : ∀ t (ht : t < zs.length + rest.length), (Go.Sort.putCells (Value.int .i64) 0 zs'.toArray cs)[t]? = some (.int .i64 ((zs' ++ rest)[t]'(by simp [hl']; omega))) := fun t ht => by
      unfold Go.Sort.putCells
      rw [Array.getElem?_mapIdx, hcs t ht]
      by_cases h : t < zs.length
      · have h2 : t < zs'.length := by omega
        simp [h, hl', List.getElem_append_left h2]
      · simp [hl', h]
        rw [List.getElem_append_right (by omega), List.getElem_append_right (by omega)]
        simp only [hl']
    show ∃ v p G' own' H' nx', _
    rw [show (fun x y : Int => decide (x ≤ y)) = leI from rfl, ← hzs]
    refine ⟨.tuple #[], tup [], { G with w := Go.Sort.grow (Go.Sort.putRow (Value.int .i64) (Go.Sort.ahead G.w n) b' 0 zs'.toArray) os }, own, upd H k (some ((zs' ++ rest).map (.int .i64))), nx, rfl, rfl, left_row hE hk hb' hh (cs' := Go.Sort.putCells (Value.int .i64) 0 zs'.toArray cs) ?_ ?_ ?_ rfl rfl rfl ?_ ?_ ?_, rfl, rfl, rfl⟩
    · show ((G.w.heap.modify b' _) ++ os)[b']? = _
      rw [Array.getElem?_append_left (by simpa using (hE.heap.be_lt hb').2.1), Array.getElem?_modify, if_pos rfl, hh]
      rfl
    · intro c hne hlt
      show ((G.w.heap.modify b' _) ++ os)[c]? = _
      rw [Array.getElem?_append_left (by simpa using hlt), Array.getElem?_modify, if_neg (Ne.symm hne)]
    · show _ ≤ ((G.w.heap.modify b' _) ++ os).size
      simp
    · rw [hpc, hsz]; simp [hl']
    · intro i v p hv hp
      have hi : i < zs.length + rest.length := by
        have := (Array.getElem?_eq_some_iff.1 hv).1
        rw [hpc, hsz] at this; exact this
      rw [hrow i hi] at hv
      obtain rfl := Option.some.inj hv
      rw [List.getElem?_map, List.getElem?_eq_getElem (by simp [hl']; omega)] at hp
      obtain rfl := Option.some.inj hp
      exact ⟨rfl, .scal _ rfl⟩
    · intro i e2 xs hp
      rw [List.getElem?_map] at hp
      obtain ⟨x, _, hx⟩ := Option.map_eq_some_iff.1 hp
      simp [lin] at hx
end Go.PE
namespace Go.PE
open Go
theorem rgA.kk {a : Aut} (h : rgA a) : ∀ j, inS a.daily j → 0 ≤ j ∧ j < 1440 := fun j hj => ⟨by have := canon_lt h.s.1 hj; omega, h.s.k j hj⟩
def MinR (a b : Aut) (m : Int) (o : Bool) : Prop := (o = true ∧ a.S m ∧ ¬ b.S m ∧ ∀ k, a.S k → ¬ b.S k → m ≤ k) ∨ (o = false ∧ m = 0 ∧ ∀ k, a.S k → b.S k)
def MinV (a b : Aut) (r : Value) : Prop := ∃ m o, r = tup [.int .i64 m, .bool o] ∧ MinR a b m o
theorem MinR.uniq {a b : Aut} {m m' : Int} {o o' : Bool} (h : MinR a b m o) (h' : MinR a b m' o') : m = m' ∧ o = o' := by
  rcases h with ⟨rfl, h1, h2, h3⟩ | ⟨rfl, rfl, h1⟩
  · rcases h' with ⟨rfl, k1, k2, k3⟩ | ⟨rfl, rfl, k1⟩
    · have := h3 _ k1 k2; have := k3 _ h1 h2; exact ⟨by omega, rfl⟩
    · exact absurd (k1 _ h1) h2
  · rcases h' with ⟨rfl, k1, k2, k3⟩ | ⟨rfl, rfl, k1⟩
    · exact absurd (h1 _ k1) k2
    · exact ⟨rfl, rfl⟩
theorem MinR.ex {a : Aut} (b : Aut) (ha : rgA a) : ∃ m o, MinR a b m o := by
  by_cases h : ∀ k, a.S k → b.S k
  · exact ⟨0, false, .inr ⟨rfl, rfl, h⟩⟩
  · obtain ⟨m, hm⟩ := Classical.not_forall.1 h
    obtain ⟨h1, h2⟩ := Classical.not_imp.1 hm
    have hr := ha.minute h1
    obtain ⟨f, hf, hf2⟩ := ex_min (S := fun k => a.S k ∧ ¬ b.S k) (fun m h => (ha.minute h.1).1) 67108864 m ⟨h1, h2⟩ hr.2
    exact ⟨f, true, .inl ⟨rfl, hf.1, hf.2, fun k k1 k2 => hf2 k ⟨k1, k2⟩⟩⟩
/-- it lies in the week behind a's first minute, or behind b's last one -/
theorem min_near {a b : Aut} {m : Int} (h1 : a.S m) (h2 : ¬ b.S m) (h3 : ∀ k, a.S k → ¬ b.S k → m ≤ k) : (a.fr ≤ m ∧ m < a.fr + 10080) ∨ (b.to < m ∧ m ≤ b.to + 10080) := by
  by_cases hf : a.fr ≤ m - 10080
  · have hw : wk (m - 10080) = wk m := by unfold wk; congr 1; omega
    have hk : (m - 10080) % 1440 = m % 1440 := by omega
    have ha : a.S (m - 10080) := ⟨hf, by have := h1.2.1; omega, by rw [hw]; exact h1.2.2.1, by rw [hk]; exact h1.2.2.2⟩
    have hb : b.S (m - 10080) := Classical.byContradiction fun hb => by have := h3 _ ha hb; omega
    right
    have b1 := hb.1; have b2 := hb.2.1; have b3 := hb.2.2.1; have b4 := hb.2.2.2
    rw [hw] at b3; rw [hk] at b4
    refine ⟨Int.not_le.1 fun h => h2 ⟨by omega, h, b3, b4⟩, by omega⟩
  · left
    have := h1.1
    omega
/-- days that hold it -/
theorem min_day {a b : Aut} {m : Int} (hf : 0 ≤ a.fr) (h1 : a.S m) (h2 : ¬ b.S m) (h3 : ∀ k, a.S k → ¬ b.S k → m ≤ k) : (a.fr / 1440 ≤ m / 1440 ∧ m / 1440 ≤ a.fr / 1440 + 7) ∨ (b.to / 1440 ≤ m / 1440 ∧ m / 1440 ≤ b.to / 1440 + 7) := by
  rcases min_near h1 h2 h3 with h | h
  · left; omega
  · right; omega
def ten (m : Int) : List Int := (List.range 10).map fun i : Nat => m / 1440 + (i : Int)
def daysL (a b : Aut) : List Int := ten a.fr ++ ten a.to ++ ten b.fr ++ ten b.to
theorem mem_ten {m d : Int} : d ∈ ten m ↔ m / 1440 ≤ d ∧ d ≤ m / 1440 + 9 := by
  unfold ten
  simp only [List.mem_map, List.mem_range]
  constructor
  · rintro ⟨i, h1, rfl⟩; omega
  · rintro ⟨h1, h2⟩; exact ⟨(d - m / 1440).toNat, by omega, by omega⟩
theorem days_len (a b : Aut) : (daysL a b).length = 40 := by simp [daysL, ten]
theorem days_rng {a b : Aut} (ha : rgA a) (hb : rgA b) {d : Int} (h : d ∈ daysL a b) : 0 ≤ d ∧ d ≤ 50000 := by
  have a1 := ha.f; have a2 := ha.ft; have a3 := ha.t; have b1 := hb.f; have b2 := hb.ft; have b3 := hb.t
  simp only [daysL, List.mem_append, mem_ten] at h
  omega
theorem days_has {a b : Aut} {m : Int} (hf : 0 ≤ a.fr) (h1 : a.S m) (h2 : ¬ b.S m) (h3 : ∀ k, a.S k → ¬ b.S k → m ≤ k) : m / 1440 ∈ daysL a b := by
  simp only [daysL, List.mem_append, mem_ten]
  have := min_day hf h1 h2 h3
  omega
/-- day after day -/
theorem minute_no {a b : Aut} (ha : rgA a) (hb : rgA b) {D : List Int} (hD : ∀ d, d ∈ daysL a b → d ∈ D) (hno : ∀ d ∈ D, ∀ k, inS (dayL a d) k → inS (dayL b d) k) : MinR a b 0 false := by
  obtain ⟨m, o, h⟩ := MinR.ex b ha
  rcases h with ⟨rfl, h1, h2, h3⟩ | ⟨rfl, rfl, h1⟩
  · exfalso
    have hd := hD _ (days_has ha.f h1 h2 h3)
    have hk := hno _ hd (m % 1440) ((dayL_inS ha.kk).2 ⟨by rw [show m / 1440 * 1440 + m % 1440 = m by omega]; exact h1, by omega, by omega⟩)
    have := ((dayL_inS hb.kk).1 hk).1
    rw [show m / 1440 * 1440 + m % 1440 = m by omega] at this
    exact h2 this
  · exact .inr ⟨rfl, rfl, h1⟩
theorem minute_yes {a b : Aut} (ha : rgA a) (hb : rgA b) {D : List Int} (hD : ∀ d, d ∈ daysL a b → d ∈ D) {j : Nat} {d m : Int} (hj : D[j]? = some d) (hs : D.Pairwise (· ≤ ·)) (hno : ∀ d ∈ D.take j, ∀ k, inS (dayL a d) k → inS (dayL b d) k)
    (hm : WoR (dayL a d) (dayL b d) m true) : MinR a b (d * 1440 + m) true := by
  rcases hm with ⟨_, h1, h2, h3⟩ | ⟨h, _⟩
  · have i1 := (dayL_inS ha.kk).1 h1
    have i2 : ¬ b.S (d * 1440 + m) := fun h => h2 ((dayL_inS hb.kk).2 ⟨h, i1.2⟩)
    obtain ⟨m0, o, h0⟩ := MinR.ex b ha
    rcases h0 with ⟨rfl, k1, k2, k3⟩ | ⟨rfl, rfl, k1⟩
    · have k4 := k3 _ i1.1 i2
      have hd0 := hD _ (days_has ha.f k1 k2 k3)
      obtain ⟨j0, hj0⟩ := List.getElem?_of_mem hd0
      have e0 : m0 / 1440 * 1440 + m0 % 1440 = m0 := by omega
      have la : inS (dayL a (m0 / 1440)) (m0 % 1440) := (dayL_inS ha.kk).2 ⟨by rw [e0]; exact k1, by omega, by omega⟩
      have lb : ¬ inS (dayL b (m0 / 1440)) (m0 % 1440) := fun h => by
        have := ((dayL_inS hb.kk).1 h).1
        rw [e0] at this; exact k2 this
      have hle : j ≤ j0 := Nat.not_lt.1 fun hlt => by
        refine lb (hno _ ?_ _ la)
        rw [List.mem_take_iff_getElem]
        obtain ⟨hl, he⟩ := List.getElem?_eq_some_iff.1 hj0
        exact ⟨j0, by omega, he⟩
      have hdd : d ≤ m0 / 1440 := by
        obtain ⟨hl, he⟩ := List.getElem?_eq_some_iff.1 hj
        obtain ⟨hl0, he0⟩ := List.getElem?_eq_some_iff.1 hj0
        rcases Nat.lt_or_ge j j0 with hlt | hge
        · have := List.pairwise_iff_getElem.1 hs j j0 hl hl0 hlt
          rw [he, he0] at this; exact this
        · have : j = j0 := by omega
          subst this
          rw [he] at he0; omega
      have hmm : d * 1440 + m ≤ m0 := by
        have h5 : d = m0 / 1440 := by have := i1.2; omega
        subst h5
        have := h3 _ la lb
        omega
      have hmm2 : m0 = d * 1440 + m := by omega
      exact .inl ⟨rfl, i1.1, i2, fun k q1 q2 => by have := k3 k q1 q2; omega⟩
    · exact absurd (k1 _ i1.1) i2
  · cases h
theorem day_inDay {a : Aut} (ha : rgA a) (d : Int) : inDay (dayL a d) ∧ canon (-1) (dayL a d) ∧ (dayL a d).length ≤ 1000000 := by
  have hc := dayL_canon (d := d) ha.s.1
  have hk : ∀ k, inS (dayL a d) k → 0 ≤ k ∧ k < 1440 := fun k h => ((dayL_inS ha.kk).1 h).2
  refine ⟨fun s hs => ?_, hc, ?_⟩
  · have := (canon_mem hc hs).2
    have h1 := hk s.f ⟨s, hs, Int.le_refl _, this⟩
    have h2 := hk s.t ⟨s, hs, this, Int.le_refl _⟩
    exact ⟨h1.1, h2.2⟩
  · have := (canon_day hc fun k h => (hk k h).2).1
    omega
def MinOK (P : Program) (f : Nat) : Prop := ∀ (a b : Aut), a.wf → b.wf → rgA a → rgA b → ∀ (H : Nat → Option (List Value)) (nx : Nat), PCalls P f [a.v, b.v] H nx (fun _ => False) (fun r H' _ => MinV a b r ∧ H' = H)
end Go.PE
namespace Go.PE
open Go
/-- v holds the numbers m, in a box of its own -/
def BI (n1 : Nat) (H1 H : Nat → Option (List Value)) (nx : Nat) (v : Value) (m : List Int) : Prop :=
  Own n1 H1 H ∧ n1 ≤ nx ∧ ((v = ns [] ∧ m = []) ∨ ∃ k cap, ∃ rest : List Int, v = slc k 0 m.length cap ∧ n1 ≤ k ∧ k < nx ∧ H k = some ((m ++ rest).map (.int .i64)) ∧ m.length + rest.length = cap ∧ cap ≤ maxLen)
theorem rep_flat (n : Nat) (x : Value) : (List.replicate n [x]).flatten = List.replicate n x := by
  induction n with
  | zero => rfl
  | succ n ih => rw [List.replicate_succ, List.flatten_cons, ih, List.replicate_succ]; rfl
theorem BI.app {n0 n1 : Nat} {H1 : Nat → Option (List Value)} {v : Value} {m : List Int} {x : Int} {T : Nat → Prop} {d : Option Nat} {s : PS} {K : PS → Prop} (h0 : n0 ≤ n1) (h : BI n1 H1 s.H s.nx v m) (hm : m.length ≤ 1000000)
    (hK : ∀ v' H' nx', BI n1 H1 H' nx' v' (m ++ [x]) → K ⟨(s.putO d v').t, H', nx'⟩) : wAppB T n0 v (some (1, [.int .i64 x])) 1 8 [.int .i64 0] d s K := by
  have hmx : (maxLen : Int) = 9223372036854775807 := rfl
  obtain ⟨h1, h2, ⟨rfl, rfl⟩ | ⟨k, cap, rest, rfl, a2, a3, a4, a5, a7⟩⟩ := h
  · refine wAppB_ns (by simp) (by simp [maxLen]) (by simp) (fun h => by omega) (fun _ cap hc1 hc2 => ?_)
    refine hK _ _ _ ⟨by rw [own_upd h2]; exact h1, by omega, .inr ⟨s.nx, cap, List.replicate (cap - 1) 0, by simp, h2, by omega, ?_, ?_, hc2⟩⟩
    · rw [upd_same, rep_flat]; simp
    · simp at hc1 ⊢; omega
  · refine wAppB_slc a4 (by simp; omega) (by omega) (.inr (by omega)) (by omega) (by omega) (fun hc => ?_) (fun hc cap' hc1 hc2 => ?_)
    · refine hK _ _ _ ⟨by rw [own_upd a2]; exact h1, h2, .inr ⟨k, cap, rest.drop 1, by simp, a2, a3, ?_, ?_, a7⟩⟩
      · rw [upd_same]
        congr 1
        simp only [Nat.zero_add, Nat.mul_one]
        rw [List.map_append, List.take_left' (by simp), List.drop_append, List.drop_of_length_le (by simp)]
        simp
      · simp; omega
    · refine hK _ _ _ ⟨by rw [own_upd h2]; exact h1, by omega, .inr ⟨s.nx, cap', List.replicate (cap' - (m.length + 1)) 0, by simp, h2, by omega, ?_, ?_, hc2⟩⟩
      · rw [upd_same, rep_flat]
        congr 1
        simp only [Nat.mul_one, List.drop_zero]
        rw [List.map_append, List.take_left' (by simp)]
        simp [Function.comp_def]
      · simp; omega
theorem src1 (H : Nat → Option (List Value)) (x : Int) : srcV H (deep [.int .i64 x]) 1 = some (1, [.int .i64 x]) := by
  rw [srcV_deep H (by simp)]; rfl
section
variable {P : Program}
theorem mi_j1 {n0 n1 : Nat} {H1 : Nat → Option (List Value)} {m i : Int} {l : List Int} {s : PS} {Q : Ex → PS → Prop} (h0 : n0 ≤ n1) (hm0 : 0 ≤ m) (hm1 : m ≤ 67108864) (hi0 : 0 ≤ i) (hi1 : i < 10) (e8 : s.t 8 = .int .i64 m) (e28 : s.t 28 = .int .i64 i) (hB : BI n1 H1 s.H s.nx (s.t 6) l) (hl : l.length ≤ 100)
    (hK : ∀ t' H' nx', (∀ k, k < 30 → k ≠ 6 → k ≠ 9 → k ≠ 28 → t' k = s.t k) → t' 28 = .int .i64 (i + 1) → BI n1 H1 H' nx' (t' 6) (l ++ [m / 1440 + i]) → Q .nrm ⟨t', H', nx'⟩) :
    wpc (PCalls P) P (fun _ => False) n0 (contain_minute_BC_j1 3) Q s := by
  obtain ⟨T, H, nx⟩ := s
  simp only at e8 e28 hB hK
  have q1 : m.tdiv 1440 = m / 1440 := Int.tdiv_eq_ediv_of_nonneg hm0
  have w1 := w64 (x := m / 1440) (by omega) (by omega)
  have w2 := w64 (x := m / 1440 + i) (by omega) (by omega)
  have w3 := w64 (x := i + 1) (by omega) (by omega)
  simp [contain_minute_BC_j1, e8, e28, q1, w1, w2]
  rw [src1]
  refine BI.app h0 hB (by omega) fun v' H' nx' hB' => ?_
  simp [e28, w3]
  refine hK _ _ _ (fun k hk h6 h9 h28 => ?_) (by simp) (by simpa using hB')
  simp [h6, h9, h28, show ¬ k = 30 by omega, show ¬ k = 31 by omega, show ¬ k = 32 by omega, show ¬ k = 33 by omega, show ¬ k = 34 by omega, show ¬ k = 35 by omega, show ¬ k = 36 by omega, show ¬ k = 37 by omega, show ¬ k = 38 by omega]
theorem mi_j2 {n0 n1 : Nat} {H1 : Nat → Option (List Value)} {ms : List Int} {oi : Nat} {l : List Int} {s : PS} {Q : Ex → PS → Prop} (h0 : n0 ≤ n1) (hms : ∀ m ∈ ms, 0 ≤ m ∧ m ≤ 67108864) (hoi : oi < ms.length) (h4 : ms.length ≤ 4) (e22 : s.t 22 = deep (ms.map (.int .i64))) (e24 : s.t 24 = .int .i64 oi) (hB : BI n1 H1 s.H s.nx (s.t 6) l) (hl : l.length ≤ 50)
    (hK : ∀ t' H' nx', (∀ k, k < 24 → k ≠ 6 → k ≠ 8 → k ≠ 9 → t' k = s.t k) → t' 24 = .int .i64 (oi + 1 : Nat) → BI n1 H1 H' nx' (t' 6) (l ++ ten ms[oi]) → Q .nrm ⟨t', H', nx'⟩) :
    wpc (PCalls P) P (fun _ => False) n0 (contain_minute_BC_j2 3) Q s := by
  obtain ⟨T, H, nx⟩ := s
  simp only at e22 e24 hB hK
  have he : elemAt (ms.map (Value.int .i64)) oi 1 = some (dptr 0 [.int .i64 ms[oi]]) := by
    have h := elemAt_map (l := ms) (f := fun x : Int => Value.int .i64 x) (n := (oi : Int)) (size := 1) (c := [.int .i64 ms[oi]]) (by omega) (by simpa using hoi) (by simp) (by simp)
    simpa using h
  have hm := hms ms[oi] (List.getElem_mem hoi)
  have w3 := w64 (x := (oi : Int) + 1) (by omega) (by omega)
  generalize hmm : ms[oi] = m at he hm hK
  simp [contain_minute_BC_j2, e22, e24, he]
  obtain ⟨I, hI⟩ : ∃ I : PS → Prop, ∀ s, I s ↔ ∃ i : Nat, i ≤ 10 ∧ (∀ k, k < 25 → k ≠ 6 → k ≠ 8 → k ≠ 9 → s.t k = T k) ∧ s.t 8 = .int .i64 m ∧ s.t 28 = .int .i64 i ∧ BI n1 H1 s.H s.nx (s.t 6) (l ++ (List.range i).map fun j : Nat => m / 1440 + (j : Int)) := ⟨_, fun _ => Iff.rfl⟩
  refine wpc_loop _ _ _ _ _ _ I (fun s => match s.t 28 with | .int _ i => (10 - i).toNat | _ => 0) _ ((hI _).2 ⟨0, by omega, fun k hk h6 h8 h9 => by simp [h8, show ¬ k = 26 by omega, show ¬ k = 27 by omega, show ¬ k = 28 by omega], by simp, by simp, by simpa using hB⟩) ?_
  intro s hs
  obtain ⟨i, hi, hT, f8, f28, hB2⟩ := (hI _).1 hs
  obtain ⟨T2, H2, n2⟩ := s
  simp only at hT f8 f28 hB2
  simp [f28]
  refine wB_of (fun hlt => ?_) (fun hlt => ?_)
  · have hlt : i < 10 := by simp at hlt; omega
    refine mi_j1 (m := m) (i := i) h0 hm.1 hm.2 (by omega) (by omega) (by simp [f8]) (by simp [f28]) (by simpa using hB2) (by simp; omega) fun t' H' nx' a1 a2 a3 => ?_
    refine kLoop_nrm _ _ _ _ (Sub_refl _ _) ((hI _).2 ⟨i + 1, by omega, fun k hk h6 h8 h9 => ?_, ?_, by simp [a2], ?_⟩) (by simp [a2, f28]; omega)
    · show t' k = T k
      rw [a1 k (by omega) h6 h9 (by omega)]
      simp [show ¬ k = 29 by omega, hT k hk h6 h8 h9]
    · show t' 8 = _
      rw [a1 8 (by omega) (by omega) (by omega) (by omega)]; simp [f8]
    · rw [List.range_succ, List.map_append, ← List.append_assoc]; exact a3
  · have hi2 : i = 10 := by simp at hlt; omega
    subst hi2
    have f24 : T2 24 = .int .i64 oi := (hT 24 (by omega) (by omega) (by omega) (by omega)).trans e24
    simp [f24, w3]
    refine hK _ _ _ (fun k hk h6 h8 h9 => ?_) (by simp) ?_
    · simp [show ¬ k = 39 by omega, show ¬ k = 24 by omega, show ¬ k = 29 by omega, hT k (by omega) h6 h8 h9]
    · simpa [ten] using hB2
end
end Go.PE
namespace Go.PE
open Go
section
variable {P : Program} {tS da wo so : Nat} (hda : DayOK P da tS) (hwo : WoOK P wo)
include hda hwo
theorem mi_j4 {a b : Aut} {n0 kd cap j : Nat} {D rest : List Int} {d : Int} {s : PS} {Q : Ex → PS → Prop} (hwa : a.wf) (hwb : b.wf) (ha : rgA a) (hb : rgA b) (hj : D[j]? = some d) (hd0 : 0 ≤ d) (hd1 : d ≤ 50000) (hDl : D.length = 40)
    (e2 : s.t 2 = ptr n0 0) (e3 : s.t 3 = ptr (n0 + 1) 0) (hA : s.H n0 = some a.cells) (hB : s.H (n0 + 1) = some b.cells) (e42 : s.t 42 = slc kd 0 40 cap) (e44 : s.t 44 = .int .i64 j) (hD : s.H kd = some ((D ++ rest).map (.int .i64)))
    (hyes : ∀ t' n' m, WoR (dayL a d) (dayL b d) m true → t' 4 = .int .i64 (d * 1440 + m) → t' 5 = .bool true → Q .rt ⟨t', s.H, n'⟩)
    (hno : ∀ t' n', (∀ k, inS (dayL a d) k → inS (dayL b d) k) → (t' 2 = s.t 2 ∧ t' 3 = s.t 3 ∧ t' 42 = s.t 42 ∧ t' 43 = s.t 43 ∧ t' 44 = .int .i64 (j + 1 : Nat)) → Q .nrm ⟨t', s.H, n'⟩) :
    wpc (PCalls P) P (fun _ => False) n0 (contain_minute_BC_j4 da wo) Q s := by
  obtain ⟨T, H, nx⟩ := s
  simp only at e2 e3 hA hB e42 e44 hD hyes hno
  have hjl : j < 40 := by have := (List.getElem?_eq_some_iff.1 hj).1; omega
  have hrow : ((D ++ rest).map (Value.int .i64))[j]? = some (.int .i64 d) := by
    rw [List.getElem?_map, List.getElem?_append_left (by omega), hj]; rfl
  have hrow' : (D.map (Value.int .i64) ++ rest.map (Value.int .i64))[j]? = some (.int .i64 d) := by rw [← List.map_append]; exact hrow
  have w3 := w64 (x := (j : Int) + 1) (by omega) (by omega)
  obtain ⟨da1, ca1, la1⟩ := day_inDay ha d
  obtain ⟨da2, ca2, la2⟩ := day_inDay hb d
  have day : ∀ {x : Aut} {s : PS} {e : Option Nat} {K : PS → Prop}, x.wf → rgA x → (∀ n, s.nx ≤ n → K ⟨(s.putO e (lin tS ((dayL x d).map Spn.v))).t, s.H, n⟩) → wCallB (PCalls P) (fun _ => False) n0 da [x.v, .int .i64 d] e s K := by
    intro x s e K hwx hx hK
    refine wCallB_of (wCall_eq (Q := fun r => r = lin tS ((dayL x d).map Spn.v)) (hda x d hwx.n hwx.du hx.f (by have := hx.ft; have := hx.t; omega) (by have := hx.ft; have := hx.f; omega) hx.t (by omega) (by omega) _ _) fun r n hr hn => ?_)
    subst hr
    exact hK n hn
  have won : ∀ {s : PS} {e : Option Nat} {K : PS → Prop}, (∀ m o n, WoR (dayL a d) (dayL b d) m o → K ⟨(s.putO e (tup [.int .i64 m, .bool o])).t, s.H, n⟩) → wCallB (PCalls P) (fun _ => False) n0 wo [deep ((dayL a d).map Spn.v), deep ((dayL b d).map Spn.v)] e s K := by
    intro s e K hK
    refine wCallB_of (wCall_eq (Q := fun r => WoV (dayL a d) (dayL b d) r) (hwo _ _ ca1 da1 da2 la1 la2 _ _) fun r n hr hn => ?_)
    obtain ⟨m, o, rfl, hW⟩ := hr
    exact hK m o n hW
  have last : ∀ {T2 : Nat → Value} {n2 : Nat} {m : Int} {o : Bool}, WoR (dayL a d) (dayL b d) m o → (T2 2 = T 2 ∧ T2 3 = T 3 ∧ T2 42 = T 42 ∧ T2 43 = T 43 ∧ T2 44 = T 44) → T2 11 = .int .i64 d → T2 12 = .int .i64 m → T2 13 = .bool o →
      wpc (PCalls P) P (fun _ => False) n0 contain_minute_BC_j3 (kBlock 5 (kSeq (PCalls P) P (fun _ => False) n0 (.reg [((some 63), (none, (.bi .add (.tmp 44) (.const (.int .i64 1))))), ((some 44), (none, (.mv (.tmp 63))))]) Q)) ⟨T2, H, n2⟩ := by
    intro T2 n2 m o hW ⟨f2, f3, f42, f43, f44⟩ f11 f12 f13
    rcases hW with ⟨rfl, h1, h2, h3⟩ | ⟨rfl, rfl, h1⟩
    · have hm := ((dayL_inS ha.kk).1 h1).2
      have w1 := w64 (x := d * 1440) (by omega) (by omega)
      have w2 := w64 (x := d * 1440 + m) (by omega) (by omega)
      simp [contain_minute_BC_j3, f11, f12, f13, w1, w2]
      exact hyes _ _ m (.inl ⟨rfl, h1, h2, h3⟩) (by simp) (by simp)
    · simp [contain_minute_BC_j3, f11, f12, f13, f44, e44, w3]
      exact hno _ _ h1 ⟨f2, f3, f42, f43, by simp⟩
  simp [contain_minute_BC_j4, e2, e3, e42, e44, hA, hB, hD, hrow', show (j : Int) < 40 by omega, Aut.ag]
  repeat' first
    | refine And.intro ?_ ?_
    | (refine day hwa ha fun n hn => ?_
       simp [e2, e3, e42, e44, hA, hB, hD, Aut.ag])
    | (refine day hwb hb fun n hn => ?_
       simp [e2, e3, e42, e44, hA, hB, hD, Aut.ag])
    | (refine won fun m o n hW => ?_
       simp [e2, e3, e42, e44, hA, hB, hD, Aut.ag])
    | (exact last ‹_› ⟨rfl, rfl, rfl, rfl, rfl⟩ rfl rfl rfl)
    | fail "stuck"
end
theorem sortI_pair (l : List Int) : (l.mergeSort leI).Pairwise (· ≤ ·) := by
  have h := List.pairwise_mergeSort (le := leI) (fun a b c h1 h2 => by simp [leI] at *; omega) (fun a b => by simp [leI]; omega) l
  exact h.imp fun h => by simpa [leI] using h
theorem sortI_mem (l : List Int) (d : Int) : d ∈ l.mergeSort leI ↔ d ∈ l := (List.mergeSort_perm l leI).mem_iff
theorem iv_noLin (l : List Int) : rowNoLin (l.map (.int .i64)) := by
  intro i e xs h
  have h := getD_some h (lin_ne_undef _ _)
  rw [List.getElem?_map] at h
  obtain ⟨x, _, hx⟩ := Option.map_eq_some_iff.1 h
  simp [lin] at hx
theorem minute_ok {P : Program} {f tS so da wo : Nat} (hc : compFnX P [3, 3000000] f = some (64, contain_minute_BC 3 so da wo, [.t 4, .t 5])) (hso : SortIOK P so) (hda : DayOK P da tS) (hwo : WoOK P wo) : MinOK P f := by
  intro a b hwa hwb ha hb H nx
  refine PCalls_ofX hc (by simp) fun hw => ?_
  have hmx : (maxLen : Int) = 9223372036854775807 := rfl
  have b3 : ¬ nx = nx + 1 := by omega
  have b5 : nx ≤ nx + 1 := by omega
  have b6 : ¬ nx + 1 = nx := by omega
  have a1 := ha.f; have a2 := ha.ft; have a3 := ha.t; have c1 := hb.f; have c2 := hb.ft; have c3 := hb.t
  obtain ⟨ms, hms⟩ : ∃ ms : List Int, ms = [a.fr, a.to, b.fr, b.to] := ⟨_, rfl⟩
  have hmr : ∀ m ∈ ms, 0 ≤ m ∧ m ≤ 67108864 := fun m hm => by
    rw [hms] at hm
    simp only [List.mem_cons, List.not_mem_nil, or_false] at hm
    rcases hm with rfl | rfl | rfl | rfl <;> omega
  have hml : ms.length = 4 := by rw [hms]; rfl
  have hmd : ms.flatMap ten = daysL a b := by rw [hms]; simp [daysL, List.append_assoc]
  obtain ⟨H1, hH1⟩ : ∃ H1 : Nat → Option (List Value), H1 = upd (upd H nx (some a.cells)) (nx + 1) (some b.cells) := ⟨_, rfl⟩
  have hHa : H1 nx = some a.cells := by rw [hH1]; simp [b3]
  have hHb : H1 (nx + 1) = some b.cells := by rw [hH1]; simp
  have ho1 : Own nx H H1 := by rw [hH1]; simp [b5]
  have hmv : deep [.int .i64 a.fr, .int .i64 a.to, .int .i64 b.fr, .int .i64 b.to] = deep (ms.map (.int .i64)) := by rw [hms]; rfl
  simp [contain_minute_BC, b3, b5, b6, hmv]
  rw [← hH1]
  obtain ⟨I, hI⟩ : ∃ I : PS → Prop, ∀ s, I s ↔ ∃ oi : Nat, oi ≤ 4 ∧ s.t 2 = ptr nx 0 ∧ s.t 3 = ptr (nx + 1) 0 ∧ s.t 22 = deep (ms.map (.int .i64)) ∧ s.t 23 = .int .i64 4 ∧ s.t 24 = .int .i64 oi ∧ BI (nx + 1 + 1) H1 s.H s.nx (s.t 6) ((ms.take oi).flatMap ten) := ⟨_, fun _ => Iff.rfl⟩
  refine wpc_loop _ _ _ _ _ _ I (fun s => match s.t 24 with | .int _ i => (4 - i).toNat | _ => 0) _ ((hI _).2 ⟨0, by omega, by simp, by simp, by simp, by simp [hml], by simp, by simp; exact ⟨by simp, by omega, .inl ⟨rfl, rfl⟩⟩⟩) ?_
  intro s hs
  obtain ⟨oi, hoi, e2, e3, e22, e23, e24, hB⟩ := (hI _).1 hs
  obtain ⟨T, H', nx'⟩ := s
  simp only at e2 e3 e22 e23 e24 hB
  simp [e23, e24]
  refine wB_of (fun hlt => ?_) (fun hlt => ?_)
  · have hlt : oi < ms.length := by simp at hlt; omega
    have hll : ((ms.take oi).flatMap ten).length ≤ 50 := by
      have : ∀ l : List Int, (l.flatMap ten).length = l.length * 10 := fun l => by
        induction l with
        | nil => rfl
        | cons x r ih => rw [List.flatMap_cons, List.length_append, ih]; simp [ten]; omega
      rw [this, List.length_take]; omega
    refine mi_j2 (n1 := nx + 1 + 1) (H1 := H1) (ms := ms) (by omega) hmr hlt (by omega) (by simp [e22]) (by simp [e24]) (by simpa using hB) hll fun t' H2 nx2 f1 f2 f3 => ?_
    refine kLoop_nrm _ _ _ _ (Sub_refl _ _) ((hI _).2 ⟨oi + 1, by omega, ?_, ?_, ?_, ?_, f2, ?_⟩) (by simp [f2, e24]; omega)
    · show t' 2 = _; rw [f1 2 (by omega) (by omega) (by omega) (by omega)]; simp [e2]
    · show t' 3 = _; rw [f1 3 (by omega) (by omega) (by omega) (by omega)]; simp [e3]
    · show t' 22 = _; rw [f1 22 (by omega) (by omega) (by omega) (by omega)]; simp [e22]
    · show t' 23 = _; rw [f1 23 (by omega) (by omega) (by omega) (by omega)]; simp [e23]
    · rw [List.take_succ_eq_append_getElem hlt, List.flatMap_append]
      simpa using f3
  · have ho4 : oi = 4 := by simp at hlt; omega
    subst ho4
    rw [List.take_of_length_le (by omega), hmd] at hB
    obtain ⟨hown, hn1, hB | ⟨kd, cap, rest, hv, k1, k2, hk, hcap, hcm⟩⟩ := hB
    · have := days_len a b; rw [hB.2] at this; cases this
    rw [days_len] at hv hcap
    obtain ⟨D, hDd⟩ : ∃ D : List Int, D = (daysL a b).mergeSort leI := ⟨_, rfl⟩
    have hDl : D.length = 40 := by rw [hDd]; simp [days_len]
    have hDm : ∀ d, d ∈ D ↔ d ∈ daysL a b := fun d => by rw [hDd]; exact sortI_mem _ _
    have hDs : D.Pairwise (· ≤ ·) := by rw [hDd]; exact sortI_pair _
    have n1 : ¬ nx = kd := by omega
    have n2 : ¬ nx + 1 = kd := by omega
    have p1 : nx ≤ kd := by omega
    have hA' : H' nx = some a.cells := by rw [hown nx (by omega)]; exact hHa
    have hB' : H' (nx + 1) = some b.cells := by rw [hown (nx + 1) (by omega)]; exact hHb
    have hown' : Own nx H H' := fun j hj => by rw [hown j (by omega)]; exact ho1 j hj
    simp [contain_minute_BC_j5, hv]
    refine wCallB_of (wCall_leT (T' := fun j => j = kd) (by have := hso (daysL a b) rest kd cap H' nx' (by rw [days_len]; omega) hk; rw [days_len] at this; exact this) (fun j hj => by subst hj; exact .inl p1) (fun j row hj hr => ?_) fun p H3 nx3 hR hn3 => ?_)
    · subst hj
      have hr : H' j = some row := hr
      rw [hk] at hr
      obtain rfl := Option.some.inj hr
      exact iv_noLin _
    obtain ⟨rfl, rfl, rfl⟩ := hR
    rw [← hDd]
    have hown3 : Own nx H (upd H' kd (some ((D ++ rest).map (.int .i64)))) := by rw [own_upd p1]; exact hown'
    simp [hv]
    obtain ⟨I2, hI2⟩ : ∃ I2 : PS → Prop, ∀ s, I2 s ↔ ∃ j : Nat, j ≤ 40 ∧ s.t 2 = ptr nx 0 ∧ s.t 3 = ptr (nx + 1) 0 ∧ s.t 42 = slc kd 0 40 cap ∧ s.t 43 = .int .i64 40 ∧ s.t 44 = .int .i64 j ∧ s.H = upd H' kd (some ((D ++ rest).map (.int .i64))) ∧ ∀ d ∈ D.take j, ∀ k, inS (dayL a d) k → inS (dayL b d) k := ⟨_, fun _ => Iff.rfl⟩
    refine wpc_loop _ _ _ _ _ _ I2 (fun s => match s.t 44 with | .int _ j => (40 - j).toNat | _ => 0) _ ((hI2 _).2 ⟨0, by omega, by simp [e2], by simp [e3], by simp, by simp, by simp, by simp, by simp⟩) ?_
    intro s hs
    obtain ⟨j, hj, g2, g3, g42, g43, g44, hH3, hcov⟩ := (hI2 _).1 hs
    obtain ⟨T3, H3, n3⟩ := s
    simp only at g2 g3 g42 g43 g44 hH3
    subst hH3
    simp [g43, g44]
    refine wB_of (fun hlt => ?_) (fun hlt => ?_)
    · have hlt : j < D.length := by simp at hlt; omega
      have hjd : D[j]? = some D[j] := List.getElem?_eq_getElem hlt
      have hdr := days_rng ha hb ((hDm _).1 (List.getElem_mem hlt))
      have htk : D.take (j + 1) = D.take j ++ [D[j]] := List.take_succ_eq_append_getElem hlt
      generalize D[j] = d at hjd hdr htk
      refine mi_j4 hda hwo (D := D) (rest := rest) (kd := kd) (cap := cap) (j := j) (d := d) hwa hwb ha hb hjd hdr.1 hdr.2 hDl (by simp [g2]) (by simp [g3]) (by simp [n1, hA']) (by simp [n2, hB']) (by simp [g42]) (by simp [g44]) (by simp) (fun t' n' m hW h4 h5 => ?_) (fun t' n' hW ⟨f2, f3, f42, f43, f44⟩ => ?_)
      · simp [h4, h5]
        refine wF_own hw (by simpa using hown3) ⟨⟨_, _, rfl, minute_yes ha hb (fun d h => (hDm d).2 h) hjd hDs hcov hW⟩, rfl⟩
      · refine kLoop_nrm _ _ _ _ (Sub_refl _ _) ((hI2 _).2 ⟨j + 1, by omega, ?_, ?_, ?_, ?_, f44, by simp, fun e he => ?_⟩) (by simp [f44, g44]; omega)
        · show t' 2 = _; rw [f2]; simp [g2]
        · show t' 3 = _; rw [f3]; simp [g3]
        · show t' 42 = _; rw [f42]; simp [g42]
        · show t' 43 = _; rw [f43]; simp [g43]
        · rw [htk] at he
          rcases List.mem_append.1 he with h | h
          · exact hcov e h
          · simp at h; subst h; exact hW
    · have hj4 : j = 40 := by simp at hlt; omega
      subst hj4
      rw [List.take_of_length_le (by omega)] at hcov
      refine wF_own hw (by simpa using hown3) ⟨⟨_, _, rfl, minute_no ha hb (fun d h => (hDm d).2 h) hcov⟩, rfl⟩
end Go.PE
