/- Two authorities together; an authority is known by its contexts. authority.Meet. Of each authority there is the closed one; laws of Meet. Laws 08 with regions told once: codes. AuthorityLattice: the law. The references: Meet. AuthorityMeet: the law. AuthorityMeet: the law. DONE. -/
import Derived.Test.YtmcfkmdhjihgmaaDoorPartF
import Derived.Test.YtmcfkmdhjihgmaaDoorPartC
set_option linter.all false
namespace Go.PE
open Go
/-- what two authorities permit together, before it is closed -/
def midA (a b : Aut) : Aut :=
  ⟨false, if a.holder ≠ noName ∧ b.holder ≠ noName ∧ a.holder ≠ b.holder then 0 else bitsV .and .u64 a.zones b.zones, bitsV .and .u64 a.lines b.lines, bitsV .and .u64 a.days b.days, max a.fr b.fr, min a.to b.to, commonL a.daily b.daily, if b.holder = noName then a.holder else b.holder⟩
def bothA (a b : Aut) : Prop := VA a ∧ VA b ∧ a.none = false ∧ b.none = false
/-- what Meet gives -/
def MeetR (a b r : Aut) : Prop := (¬ bothA a b ∧ r = noneA) ∨ (bothA a b ∧ IsClosed (midA a b) r)
theorem MeetR.uniq {a b r r' : Aut} (h : MeetR a b r) (h' : MeetR a b r') : r = r' := by
  rcases h with ⟨h1, rfl⟩ | ⟨h1, h2⟩
  · rcases h' with ⟨_, rfl⟩ | ⟨h3, _⟩
    · rfl
    · exact absurd h3 h1
  · rcases h' with ⟨h3, _⟩ | ⟨_, h4⟩
    · exact absurd h1 h3
    · exact h2.uniq1 h4
theorem VA.rg {a : Aut} (h : VA a) (hn : a.none = false) : rgA a := by
  rcases h with rfl | ⟨_, h, _⟩
  · cases hn
  · exact h
theorem midA_S {a b : Aut} (ha : isU64 a.days) (hb : isU64 b.days) (m : Int) : (midA a b).S m ↔ a.S m ∧ b.S m := by
  show (max a.fr b.fr ≤ m ∧ m ≤ min a.to b.to ∧ tb (bitsV .and .u64 a.days b.days) (wk m) = true ∧ inS (commonL a.daily b.daily) (m % 1440)) ↔ (a.fr ≤ m ∧ m ≤ a.to ∧ tb a.days (wk m) = true ∧ inS a.daily (m % 1440)) ∧ (b.fr ≤ m ∧ m ≤ b.to ∧ tb b.days (wk m) = true ∧ inS b.daily (m % 1440))
  rw [tb_and ha hb, Bool.and_eq_true, inS_common]
  constructor
  · rintro ⟨h1, h2, ⟨h3, h4⟩, h5, h6⟩
    exact ⟨⟨by omega, by omega, h3, h5⟩, by omega, by omega, h4, h6⟩
  · rintro ⟨⟨h1, h2, h3, h4⟩, h5, h6, h7, h8⟩
    exact ⟨by omega, by omega, ⟨h3, h7⟩, h4, h8⟩
theorem midA_wf {a b : Aut} (ha : rgA a) (hb : rgA b) (hwa : a.wf) (hwb : b.wf) : WfI (midA a b) where
  zu := by
    unfold midA; simp only
    split
    · exact ⟨by omega, by omega⟩
    · exact and_isU64 hwa.zu hwb.zu
  lu := and_isU64 hwa.lu hwb.lu
  du := and_isU64 hwa.du hwb.du
  fb := by
    have h1 := ha.f; have h2 := ha.ft; have h3 := ha.t; have h4 := hb.f; have h5 := hb.ft; have h6 := hb.t
    unfold midA; simp only; omega
  c := canon_common ha.s.1 hb.s.1
  k := fun k hk => ha.s.k k ((inS_common _ _ _).1 hk).1
theorem midA_wfA {a b : Aut} (ha : rgA a) (hb : rgA b) (hwa : a.wf) (hwb : b.wf) : (midA a b).wf := by
  have h := midA_wf ha hb hwa hwb
  refine ⟨h.zu, h.lu, h.du, ?_, ?_, ?_, ?_⟩
  · have := h.fb; exact ⟨by omega, by omega⟩
  · have := h.fb; exact ⟨by omega, by omega⟩
  · unfold midA; simp only
    split
    · exact hwa.h
    · exact hwb.h
  · have := (canon_day h.c h.k).1; omega
/-- Meet gives a valid authority -/
theorem MeetR.ok {a b r : Aut} (h : MeetR a b r) (hwa : a.wf) (hwb : b.wf) : VA r ∧ SmA r := by
  rcases h with ⟨_, rfl⟩ | ⟨⟨h1, h2, h3, h4⟩, h5⟩
  · refine ⟨.inl rfl, ⟨⟨⟨by decide, by decide⟩, ⟨by decide, by decide⟩, ⟨by decide, by decide⟩, ⟨by decide, by decide⟩, ⟨by decide, by decide⟩, by decide, by decide⟩, by decide, by decide, by decide, by decide, by decide⟩⟩
  · have ra := h1.rg h3
    have rb := h2.rg h4
    have hm := midA_wf ra rb hwa hwb
    refine ⟨h5.VA ?_ ⟨hm.fb.1, hm.fb.2.2.2⟩ ?_, h5.wf (midA_wfA ra rb hwa hwb) ⟨hm.fb.1, hm.fb.2.2.2⟩⟩
    · have := tb_le hm.lu (n := 32) (by omega) fun j hj => by
        have hj : tb (bitsV .and .u64 a.lines b.lines) j = true := hj
        rw [tb_and hwa.lu hwb.lu, Bool.and_eq_true] at hj
        apply Classical.byContradiction
        intro hn
        have h7 := ra.l
        rw [tb_hi (n := 32) hwa.lu.1 (by omega) (by omega)] at hj
        cases hj.1
      omega
    · show (if b.holder = noName then a.holder else b.holder) = noName ∨ nameV (if b.holder = noName then a.holder else b.holder) = true
      split
      · exact ra.h
      · exact rb.h
/-- the contexts of Meet are those of both -/
theorem MeetR.inP {a b r : Aut} (h : MeetR a b r) (ha : VA a) (hb : VA b) (hwa : a.wf) (hwb : b.wf) {c : Ctx} (hc : c.valid = true) : inP r c ↔ inP a c ∧ inP b c := by
  rcases h with ⟨h0, rfl⟩ | ⟨⟨_, _, h3, h4⟩, h5⟩
  · constructor
    · intro h; have := h.n; cases this
    · rintro ⟨x, y⟩; exact absurd ⟨ha, hb, x.n, y.n⟩ h0
  · rw [h5.inP_iff hc, midA_S hwa.du hwb.du]
    have hl : (midA a b).lines = bitsV .and .u64 a.lines b.lines := rfl
    have hh : (midA a b).holder = if b.holder = noName then a.holder else b.holder := rfl
    have hz : (midA a b).zones = if a.holder ≠ noName ∧ b.holder ≠ noName ∧ a.holder ≠ b.holder then 0 else bitsV .and .u64 a.zones b.zones := rfl
    rw [hl, hh, hz, tb_and hwa.lu hwb.lu, Bool.and_eq_true]
    constructor
    · rintro ⟨z, ⟨l1, l2⟩, h, s1, s2⟩
      split at z
      · rw [tb_0] at z; cases z
      · rename_i hcf
        rw [tb_and hwa.zu hwb.zu, Bool.and_eq_true] at z
        refine ⟨⟨h3, hc, z.1, l1, ?_, s1⟩, ⟨h4, hc, z.2, l2, ?_, s2⟩⟩
        · by_cases e1 : a.holder = noName
          · exact .inl e1
          · split at h
            · exact h
            · rename_i e2
              have e3 : a.holder = b.holder := Classical.byContradiction fun e3 => hcf ⟨e1, e2, e3⟩
              rw [e3]; exact h
        · split at h
          · rename_i e2; exact .inl e2
          · exact h
    · rintro ⟨x, y⟩
      have hcf : ¬ (a.holder ≠ noName ∧ b.holder ≠ noName ∧ a.holder ≠ b.holder) := by
        rintro ⟨e1, e2, e3⟩
        have h6 := x.h; have h7 := y.h
        simp only [e1, e2, false_or] at h6 h7
        exact e3 (h6.trans h7.symm)
      rw [if_neg hcf, tb_and hwa.zu hwb.zu, Bool.and_eq_true]
      refine ⟨⟨x.z, y.z⟩, ⟨x.l, y.l⟩, ?_, x.S, y.S⟩
      split
      · exact x.h
      · exact y.h
/-! an authority is known by its contexts -/
theorem VA.S_wit {a : Aut} (h : VA a) (hn : a.none = false) : ∃ m, a.S m := by
  rcases h with rfl | ⟨_, _, hc⟩
  · cases hn
  · rcases hc with ⟨_, e⟩ | ⟨_, _, f, t, d, l, hc, _⟩
    · rw [e] at hn; cases hn
    · exact ⟨f, hc.fr.1⟩
def nmA : ByteArray := ⟨#[97]⟩
def nmB : ByteArray := ⟨#[98]⟩
theorem nmA_ok : nameV nmA = true := by decide
theorem nmB_ok : nameV nmB = true := by decide
theorem nmA_no : nmA ≠ noName := by decide
theorem nmB_no : nmB ≠ noName := by decide
theorem nmAB : nmA ≠ nmB := by decide
theorem tb_ex {x : Int} (hx : isU64 x) (h : x ≠ 0) : ∃ j, j < 64 ∧ tb x j = true := by
  apply Classical.byContradiction
  intro hn
  apply h
  refine tb_ext hx ⟨by omega, by omega⟩ fun j hj => ?_
  rw [tb_0, Bool.eq_false_iff]
  intro e
  exact hn ⟨j, hj, e⟩
theorem rgA.lt32 {a : Aut} (hg : rgA a) (hu : isU64 a.lines) {j : Nat} (h : tb a.lines j = true) : j < 32 := by
  apply Classical.byContradiction
  intro hn
  have := hg.l
  rw [tb_hi (n := 32) hu.1 (by omega) (by omega)] at h
  cases h
theorem rgA.minute {a : Aut} (hg : rgA a) {m : Int} (h : a.S m) : 0 ≤ m ∧ m ≤ 67108864 := by
  have := hg.f; have := hg.t; have h1 := h.1; have h2 := h.2.1
  omega
/-- a context made of parts -/
theorem mkCtx_inP {a : Aut} (hn : a.none = false) (hg : rgA a) (hwf : a.wf) {z l : Nat} {m : Int} {n : ByteArray} (h1 : z < 64) (h2 : l < 32) (h0 : 0 ≤ m ∧ m ≤ 67108864) (h3 : nameV n = true) :
    (Ctx.mk z l m n).valid = true ∧ (inP a ⟨z, l, m, n⟩ ↔ (tb a.zones z = true ∧ tb a.lines l = true ∧ (a.holder = noName ∨ a.holder = n) ∧ a.S m)) := by
  have hv : (Ctx.mk z l m n).valid = true := (Ctx.valid_iff _).2 ⟨by show (0 : Int) ≤ z; omega, by show (z : Int) ≤ 63; omega, by show (0 : Int) ≤ l; omega, by show (l : Int) ≤ 31; omega, h0.1, h0.2, h3⟩
  refine ⟨hv, fun h => ⟨by simpa using h.z, by simpa using h.l, h.h, h.S⟩, fun ⟨x1, x2, x3, x4⟩ => ⟨hn, hv, by simpa using x1, by simpa using x2, x3, x4⟩⟩
/-- of an authority that is not none there is a context -/
theorem VA.wit {a : Aut} (h : VA a) (hn : a.none = false) (hwf : a.wf) : ∃ (z l : Nat) (m : Int) (n : ByteArray), z < 64 ∧ l < 32 ∧ (0 ≤ m ∧ m ≤ 67108864) ∧ nameV n = true ∧ tb a.zones z = true ∧ tb a.lines l = true ∧ (a.holder = noName ∨ a.holder = n) ∧ a.S m := by
  have hg := h.rg hn
  obtain ⟨m, hm⟩ := h.S_wit hn
  obtain ⟨f1, f2, _⟩ := h.full hn
  obtain ⟨z, hz, hz2⟩ := tb_ex hwf.zu f1
  obtain ⟨l, hl, hl2⟩ := tb_ex hwf.lu f2
  by_cases e : a.holder = noName
  · exact ⟨z, l, m, nmA, hz, hg.lt32 hwf.lu hl2, hg.minute hm, nmA_ok, hz2, hl2, .inl e, hm⟩
  · exact ⟨z, l, m, a.holder, hz, hg.lt32 hwf.lu hl2, hg.minute hm, by rcases hg.h with h | h; exact absurd h e; exact h, hz2, hl2, .inr rfl, hm⟩
theorem VA.ext_none {a b : Aut} (ha : VA a) (hb : VA b) (hwb : b.wf) (h : ∀ c : Ctx, c.valid = true → (PE.inP a c ↔ PE.inP b c)) (hn : a.none = true) : b.none = true := by
  cases hbn : b.none with
  | true => rfl
  | false =>
    obtain ⟨z, l, m, n, h1, h2, h3, h4, h5⟩ := hb.wit hbn hwb
    obtain ⟨hv, hi⟩ := mkCtx_inP hbn (hb.rg hbn) hwb h1 h2 h3 h4
    have := (h _ hv).2 (hi.2 h5)
    have := this.n
    rw [hn] at this; cases this
theorem VA.none_eq {a : Aut} (h : VA a) (hn : a.none = true) : a = noneA := by
  rcases h with h | ⟨h, _⟩
  · exact h
  · rw [hn] at h; cases h
theorem VA.ext {a b : Aut} (ha : VA a) (hb : VA b) (hwa : a.wf) (hwb : b.wf) (h : ∀ c : Ctx, c.valid = true → (PE.inP a c ↔ PE.inP b c)) : a = b := by
  cases han : a.none with
  | true => rw [ha.none_eq han, hb.none_eq (ha.ext_none hb hwb h han)]
  | false =>
    have hbn : b.none = false := by
      cases hbn : b.none with
      | false => rfl
      | true => have := hb.ext_none ha hwa (fun c hc => (h c hc).symm) hbn; rw [han] at this; cases this
    have ga := ha.rg han
    have gb := hb.rg hbn
    obtain ⟨z, l, m, n, h1, h2, h3, h4, h5⟩ := ha.wit han hwa
    -- the parts of contexts
    have key : ∀ {z l : Nat} {m : Int} {n : ByteArray}, z < 64 → l < 32 → (0 ≤ m ∧ m ≤ 67108864) → nameV n = true → ((tb a.zones z = true ∧ tb a.lines l = true ∧ (a.holder = noName ∨ a.holder = n) ∧ a.S m) ↔ (tb b.zones z = true ∧ tb b.lines l = true ∧ (b.holder = noName ∨ b.holder = n) ∧ b.S m)) := fun {z l m n} k1 k2 k3 k4 => by
      obtain ⟨hv, hi⟩ := mkCtx_inP han ga hwa k1 k2 k3 k4
      rw [← hi, h _ hv, (mkCtx_inP hbn gb hwb k1 k2 k3 k4).2]
    have h6 := (key h1 h2 h3 h4).1 h5
    have hz : a.zones = b.zones := tb_ext hwa.zu hwb.zu fun j hj => by
      rw [Bool.eq_iff_iff]
      have := key (z := j) hj h2 h3 h4
      constructor
      · intro e; exact (this.1 ⟨e, h5.2⟩).1
      · intro e; exact (this.2 ⟨e, h6.2⟩).1
    have hl : a.lines = b.lines := tb_ext hwa.lu hwb.lu fun j _ => by
      rw [Bool.eq_iff_iff]
      constructor
      · intro e; exact ((key (l := j) h1 (ga.lt32 hwa.lu e) h3 h4).1 ⟨h5.1, e, h5.2.2⟩).2.1
      · intro e; exact ((key (l := j) h1 (gb.lt32 hwb.lu e) h3 h4).2 ⟨h6.1, e, h6.2.2⟩).2.1
    have hS : ∀ m, a.S m ↔ b.S m := fun m' => by
      constructor
      · intro e; exact ((key h1 h2 (ga.minute e) h4).1 ⟨h5.1, h5.2.1, h5.2.2.1, e⟩).2.2.2
      · intro e; exact ((key h1 h2 (gb.minute e) h4).2 ⟨h6.1, h6.2.1, h6.2.2.1, e⟩).2.2.2
    have hN : ∀ n, nameV n = true → ((a.holder = noName ∨ a.holder = n) ↔ (b.holder = noName ∨ b.holder = n)) := fun n' hn' => by
      have := key h1 h2 h3 hn'
      constructor
      · intro e; exact (this.1 ⟨h5.1, h5.2.1, e, h5.2.2.2⟩).2.2.1
      · intro e; exact (this.2 ⟨h6.1, h6.2.1, e, h6.2.2.2⟩).2.2.1
    have no2 : ∀ {x : ByteArray}, (∀ n, nameV n = true → (x = noName ∨ x = n)) → x = noName := fun {x} hx => by
      rcases hx nmA nmA_ok with e | e
      · exact e
      · rcases hx nmB nmB_ok with e2 | e2
        · exact e2
        · exact absurd (e.symm.trans e2) nmAB
    have hh : a.holder = b.holder := by
      by_cases e1 : a.holder = noName
      · rw [e1]; exact (no2 fun n hn => (hN n hn).1 (.inl e1)).symm
      · have n1 : nameV a.holder = true := by rcases ga.h with h | h; exact absurd h e1; exact h
        rcases (hN _ n1).1 (.inr rfl) with e2 | e2
        · exact absurd (no2 fun n hn => (hN n hn).2 (.inl e2)) e1
        · exact e2.symm
    rcases ha with rfl | ⟨_, _, ca⟩
    · cases han
    rcases hb with rfl | ⟨_, _, cb⟩
    · cases hbn
    exact ca.uniq cb hz hl hh hS
/-- what the authority of a list permits -/
theorem IsOf.inP {l : List Pred} {r : Aut} (h : IsOf l r) (hv : ∀ p ∈ l, p.valid = true) (hw : ∀ p ∈ l, p.wf) {c : Ctx} (hc : c.valid = true) : PE.inP r c ↔ ∀ p ∈ l, rideV p.kind p c = true := by
  obtain ⟨b, hb, hr⟩ := h
  rw [hr.inP_iff hc, hb.exact hv hw hc]
end Go.PE
namespace Go.PE
open Go
/-- what one holder more makes of an authority -/
def holdA (a : Aut) (n : ByteArray) : Aut := { a with zones := if a.holder ≠ noName ∧ a.holder ≠ n then 0 else a.zones, holder := n : Aut }
def RestrHOK (P : Program) (f : Nat) : Prop := ∀ (a : Aut) (n : ByteArray) (H : Nat → Option (List Value)) (nx : Nat),
    PCalls P f [a.v, (Pred.mk 6 0 0 0 n 0).v] H nx (fun _ => False) (fun r H' _ => r = (holdA a n).v ∧ H' = H)
theorem restrH_ok {P : Program} {f tS da co : Nat} (hc : compFn P f = some (73, authority_restrictC tS da co, [.cA 4 8])) : RestrHOK P f := by
  intro a n H nx
  refine PCalls_of hc (by simp) fun hw => ?_
  have a1 : ¬ nx = nx + 1 + 1 := by omega
  have a2 : ¬ nx + 1 = nx + 1 + 1 := by omega
  have a3 : ¬ nx = nx + 1 := by omega
  have a4 : nx ≤ nx + 1 + 1 := by omega
  have a5 : nx ≤ nx + 1 := by omega
  have a6 : ¬ nx + 1 = nx := by omega
  have a7 : ¬ nx + 1 + 1 = nx := by omega
  have en : ∀ {z : Int} {H2 : Nat → Option (List Value)} {n2 : Nat}, z = (if a.holder ≠ noName ∧ a.holder ≠ n then 0 else a.zones) → Own nx H H2 → wF (some [ag ({ a with zones := z, holder := n : Aut }).cells]) nx (fun r H' _ => r = (holdA a n).v ∧ H' = H) H2 n2 := fun {z H2 n2} hz ho => wF_own hw ho ⟨by rw [hz]; rfl, rfl⟩
  obtain ⟨p, hp⟩ : ∃ p : Pred, p = Pred.mk 6 0 0 0 n 0 := ⟨_, rfl⟩
  have h6 : p.kind = 6 := by rw [hp]
  have hnm : p.name = n := by rw [hp]
  rw [← hp]
  by_cases g1 : a.holder = noName
  · have g1'' : a.holder.toList = [] := (noName_iff _).2 g1
    have g1' : a.holder.toList.isEmpty = true := by rw [g1'']; rfl
    simp [authority_restrictC, a1, a2, a3, a4, a5, a6, a7, h6, hnm, g1', g1'', Aut.ag]
    exact en (z := a.zones) (by rw [if_neg (by simp [g1])]) (by simp [a4, a5])
  · have g1'' : ¬ a.holder.toList = [] := fun e => g1 ((noName_iff _).1 e)
    have g1' : a.holder.toList.isEmpty = false := by simpa using g1''
    by_cases g2 : a.holder = n
    · simp [authority_restrictC, a1, a2, a3, a4, a5, a6, a7, h6, hnm, g1', g1'', show (a.holder == n) = true by simp [g2], Aut.ag]
      exact en (z := a.zones) (by rw [if_neg (by simp [g2])]) (by simp [a4, a5])
    · have g2' : (a.holder == n) = false := by simpa using g2
      simp [authority_restrictC, a1, a2, a3, a4, a5, a6, a7, h6, hnm, g1', g1'', g2', Aut.ag]
      exact en (z := 0) (by rw [if_pos ⟨g1, g2⟩]) (by simp [a4, a5])
theorem Aut.get7set (a : Aut) (v : Value) : (a.cells.set 6 v)[7]? = some (.string a.holder) := rfl
section
variable {P : Program} {co re cl tS : Nat} (hco : CommonOK P co tS) (hre : RestrHOK P re) (hcl : ClosedOK P cl)
include hco hre hcl
theorem am_j1 {a b a1 : Aut} {nx : Nat} {H : Nat → Option (List Value)} {c : List Value} {s : PS} (hw : ∀ k, nx ≤ k → H k = none) (hal : a1.daily.length ≤ 1000000) (hbl : b.daily.length ≤ 1000000)
    (hm : { (if b.holder = noName then { a1 with daily := commonL a1.daily b.daily : Aut } else holdA { a1 with daily := commonL a1.daily b.daily : Aut } b.holder) with none := false : Aut } = midA a b) (hno : a1.none = false) (hwf : WfI (midA a b)) (hB : bothA a b)
    (e2 : s.t 2 = ptr nx 0) (e3 : s.t 3 = ptr (nx + 1) 0) (e4 : s.t 4 = ptr (nx + 1 + 1) 0) (h0 : s.H nx = some a1.cells) (h1 : s.H (nx + 1) = some b.cells) (h2 : s.H (nx + 1 + 1) = some c) (hcl8 : c.length = 8) (hown : Own nx H s.H) (hn : nx + 1 + 1 < s.nx) :
    wpc (PCalls P) P (fun _ => False) nx (authority_MeetC_j1 co re cl) (fin nx [RV.cA 4 8] fun r H' _ => (∃ r', r = r'.v ∧ MeetR a b r') ∧ H' = H) s := by
  obtain ⟨T, H', nx'⟩ := s
  simp only at e2 e3 e4 h0 h1 h2 hown hn
  have b1 : ¬ nx = nx + 1 + 1 := by omega
  have b2 : ¬ nx + 1 = nx + 1 + 1 := by omega
  have b3 : ¬ nx = nx + 1 := by omega
  have b4 : nx ≤ nx + 1 + 1 := by omega
  have b5 : nx ≤ nx + 1 := by omega
  have b6 : ¬ nx + 1 = nx := by omega
  have b7 : ¬ nx + 1 + 1 = nx := by omega
  have b8 : ¬ nx + 1 + 1 = nx + 1 := by omega
  have en : ∀ {H2 : Nat → Option (List Value)} {n2 : Nat} {r' : Aut}, IsClosed (midA a b) r' → Own nx H H2 → wF (some [ag r'.cells]) nx (fun r H' _ => (∃ r', r = r'.v ∧ MeetR a b r') ∧ H' = H) H2 n2 := fun {H2 n2 r'} hr ho => wF_own hw ho ⟨⟨r', rfl, .inr ⟨hB, hr⟩⟩, rfl⟩
  simp [authority_MeetC_j1, e2, e3, h0, h1]
  refine wCall_eq (Q := fun r => r = lin tS ((commonL a1.daily b.daily).map Spn.v)) (hco a1.daily b.daily hal hbl _ _) fun r n1 hr hn1 => ?_
  subst hr
  simp at hn1
  simp [e2, e3, h0, h1, b1, b2, b3, b4, b5, b6, b7, b8]
  refine sts_of (k := nx) (off := 6) (e := tS) (xs := (commonL a1.daily b.daily).map Spn.v) (row := a1.cells) (by simp) (by simp [h0]) (by simp) (.inr (by omega)) (by simp) ?_
  by_cases g1 : b.holder = noName
  · have g1'' : b.holder.toList = [] := (noName_iff _).2 g1
    have g1' : b.holder.toList.isEmpty = true := by rw [g1'']; rfl
    rw [if_pos g1] at hm
    have hm2 : ({ a1 with daily := commonL a1.daily b.daily : Aut } : Aut) = midA a b := by rw [← hm]; simp [hno]
    simp [e2, e3, e4, h0, h1, h2, b1, b2, b3, b4, b5, b6, b7, b8, g1', g1'', Aut.set6, Aut.set6l, Aut.ag, hm2]
    refine wCall_eq (Q := fun r => ∃ r', r = r'.v ∧ IsClosed (midA a b) r') (hcl (midA a b) hwf _ _) fun r n2 hr hn2 => ?_
    obtain ⟨r', rfl, hr'⟩ := hr
    simp [e4, h2, hcl8, b1, b2, b3, b4, b5, b6, b7, b8]
    rw [List.drop_of_length_le (show c.length ≤ 8 by omega)]
    exact en hr' (by simp [hown, b4])
  · have g1'' : ¬ b.holder.toList = [] := fun e => g1 ((noName_iff _).1 e)
    have g1' : b.holder.toList.isEmpty = false := by simpa using g1''
    rw [if_neg g1] at hm
    have hm2 : holdA { a1 with daily := commonL a1.daily b.daily : Aut } b.holder = midA a b := by rw [← hm]; simp [holdA, hno]
    simp [e2, e3, e4, h0, h1, h2, b1, b2, b3, b4, b5, b6, b7, b8, g1', g1'', Aut.set6, Aut.set6l, Aut.ag]
    refine wCall_eq (Q := fun r => r = (midA a b).v) (by rw [← hm2]; exact hre _ _ _ _) fun r n2 hr hn2 => ?_
    subst hr
    simp [e2, e3, e4, h0, h1, h2, b1, b2, b3, b4, b5, b6, b7, b8, Aut.ag]
    refine wCall_eq (Q := fun r => ∃ r', r = r'.v ∧ IsClosed (midA a b) r') (hcl (midA a b) hwf _ _) fun r n3 hr hn3 => ?_
    obtain ⟨r', rfl, hr'⟩ := hr
    simp [e4, h2, hcl8, b1, b2, b3, b4, b5, b6, b7, b8]
    rw [List.drop_of_length_le (show c.length ≤ 8 by omega)]
    exact en hr' (by simp [hown, b4])
end
def AMeetOK (P : Program) (f g : Nat) : Prop := ∀ (a b : Aut), a.wf → b.wf → ∀ (H : Nat → Option (List Value)) (nx : Nat), H g = some bitsRow → g < nx → PCalls P f [a.v, b.v] H nx (fun _ => False) (fun r H' _ => (∃ r', r = r'.v ∧ MeetR a b r') ∧ H' = H)
theorem ameet_ok {P : Program} {f g tS va no co re cl : Nat} (hc : compFn P f = some (68, authority_MeetC tS va no co re cl, [.cA 4 8])) (hva : AValOK P va g) (hno : NoneOK P no) (hco : CommonOK P co tS) (hre : RestrHOK P re) (hcl : ClosedOK P cl) : AMeetOK P f g := by
  intro a b hwa hwb H nx hg hgn
  refine PCalls_of hc (by simp) fun hw => ?_
  have b1 : ¬ nx = nx + 1 + 1 := by omega
  have b2 : ¬ nx + 1 = nx + 1 + 1 := by omega
  have b3 : ¬ nx = nx + 1 := by omega
  have b4 : nx ≤ nx + 1 + 1 := by omega
  have b5 : nx ≤ nx + 1 := by omega
  have b6 : ¬ nx + 1 = nx := by omega
  have b7 : ¬ nx + 1 + 1 = nx := by omega
  have b8 : ¬ nx + 1 + 1 = nx + 1 := by omega
  have g1 : ¬ g = nx := by omega
  have g2 : ¬ g = nx + 1 := by omega
  have g3 : ¬ g = nx + 1 + 1 := by omega
  have no : ∀ {s : PS} {d : Option Nat} {K : PS → Prop}, (∀ n, K ⟨(s.putO d noneA.v).t, s.H, n⟩) → wCall (PCalls P) (fun _ => False) nx no [] d s K := by
    intro s d K hK
    refine wCall_eq (Q := fun r => r = noneA.v) (hno _ _) fun r n1 hr hn1 => ?_
    subst hr
    exact hK n1
  have bad : ∀ {H2 : Nat → Option (List Value)} {n2 : Nat}, ¬ bothA a b → Own nx H H2 → wF (some [ag noneA.cells]) nx (fun r H' _ => (∃ r', r = r'.v ∧ MeetR a b r') ∧ H' = H) H2 n2 := fun {H2 n2} hr ho => wF_own hw ho ⟨⟨noneA, rfl, .inl ⟨hr, rfl⟩⟩, rfl⟩
  have nov : ∀ a : Aut, okA a = false → ¬ VA a := fun a h hV => by rw [(okA_iff a).2 hV] at h; cases h
  simp [authority_MeetC, b1, b2, b3, b4, b5, b6, b7, b8, Aut.ag]
  refine wCall_eq (Q := fun r => r = .bool (okA a)) (hva a hwa _ _ (by simp [g1, g2, g3, hg]) (by show g < nx + 1 + 1 + 1; omega)) fun r n1 hr hn1 => ?_
  subst hr
  simp at hn1
  cases ho : okA a with
  | false =>
    simp
    refine no fun n => ?_
    simp [b1, b2, b3, b4, b5, b6, b7, b8]
    exact bad (fun h => nov a ho h.1) (by simp [b4, b5])
  | true =>
  simp [b1, b2, b3, b4, b5, b6, b7, b8, Aut.ag]
  refine wCall_eq (Q := fun r => r = .bool (okA b)) (hva b hwb _ _ (by simp [g1, g2, g3, hg]) (by show g < n1; omega)) fun r n2 hr hn2 => ?_
  subst hr
  simp at hn2
  cases ho2 : okA b with
  | false =>
    simp
    refine no fun n => ?_
    simp [b1, b2, b3, b4, b5, b6, b7, b8]
    exact bad (fun h => nov b ho2 h.2.1) (by simp [b4, b5])
  | true =>
  cases hn : a.none with
  | true =>
    simp [b1, b2, b3, b4, b5, b6, b7, b8, hn]
    refine no fun n => ?_
    simp [b1, b2, b3, b4, b5, b6, b7, b8]
    exact bad (fun h => by have := h.2.2.1; rw [hn] at this; cases this) (by simp [b4, b5])
  | false =>
  cases hn2' : b.none with
  | true =>
    simp [b1, b2, b3, b4, b5, b6, b7, b8, hn, hn2']
    refine no fun n => ?_
    simp [b1, b2, b3, b4, b5, b6, b7, b8]
    exact bad (fun h => by have := h.2.2.2; rw [hn2'] at this; cases this) (by simp [b4, b5])
  | false =>
  have hB : bothA a b := ⟨(okA_iff a).1 ho, (okA_iff b).1 ho2, hn, hn2'⟩
  have hmw := midA_wf (hB.1.rg hn) (hB.2.1.rg hn2') hwa hwb
  have hm1 : ∀ u v : Int, (if u < v then v else u) = max u v := fun u v => by split <;> omega
  have hm2 : ∀ u v : Int, (if v < u then v else u) = min u v := fun u v => by split <;> omega
  simp [authority_MeetC_j2, authority_MeetC_j3, b1, b2, b3, b4, b5, b6, b7, b8, hn, hn2', hm1, hm2]
  have en : ∀ {T : Nat → Value} {H2 : Nat → Option (List Value)}, T 2 = ptr nx 0 → T 3 = ptr (nx + 1) 0 → T 4 = ptr (nx + 1 + 1) 0 → H2 nx = some ({ a with zones := bitsV .and .u64 a.zones b.zones, lines := bitsV .and .u64 a.lines b.lines, days := bitsV .and .u64 a.days b.days, fr := max a.fr b.fr, to := min a.to b.to : Aut }).cells → H2 (nx + 1) = some b.cells → H2 (nx + 1 + 1) = some [.bool false, .int .u64 0, .int .u64 0, .int .u64 0, .int .i64 0, .int .i64 0, lin tS [], .string noName] → Own nx H H2 →
      wpc (PCalls P) P (fun _ => False) nx (authority_MeetC_j1 co re cl) (fin nx [RV.cA 4 8] fun r H' _ => (∃ r', r = r'.v ∧ MeetR a b r') ∧ H' = H) ⟨T, H2, n2⟩ := by
    intro T H2 f2 f3 f4 h0 h1 h2 hown
    refine am_j1 (a1 := { a with zones := bitsV .and .u64 a.zones b.zones, lines := bitsV .and .u64 a.lines b.lines, days := bitsV .and .u64 a.days b.days, fr := max a.fr b.fr, to := min a.to b.to : Aut }) hco hre hcl hw hwa.n hwb.n ?_ ?_ hmw hB f2 f3 f4 h0 h1 h2 rfl hown (by show nx + 1 + 1 < n2; omega)
    · by_cases e : b.holder = noName
      · simp [e, midA, hn]
      · simp [e, midA, hn, holdA]
    · exact hn
  repeat' first
    | refine And.intro ?_ ?_
    | (refine en (by simp) (by simp) (by simp) ?_ ?_ ?_ ?_
       · simp [b1, b3]; rfl
       · simp [b2, b6]
       · simp [b7, b8]; rfl
       · simp [b4, b5])
    | fail "stuck"
end Go.PE
namespace Go.PE
open Go
theorem ex_min {S : Int → Prop} (h0 : ∀ m, S m → 0 ≤ m) : ∀ (n : Nat) (m : Int), S m → m ≤ n → ∃ f, S f ∧ ∀ k, S k → f ≤ k
  | 0, m, h, hm => ⟨m, h, fun k hk => by have := h0 k hk; omega⟩
  | n + 1, m, h, hm => by
    by_cases e : ∃ k, S k ∧ k < m
    · obtain ⟨k, hk, hlt⟩ := e
      exact ex_min h0 n k hk (by omega)
    · exact ⟨m, h, fun k hk => Int.not_lt.1 fun hlt => e ⟨k, hk, hlt⟩⟩
theorem ex_max {S : Int → Prop} {B : Int} (h0 : ∀ m, S m → m ≤ B) : ∀ (n : Nat) (m : Int), S m → B - m ≤ n → ∃ f, S f ∧ ∀ k, S k → k ≤ f
  | 0, m, h, hm => ⟨m, h, fun k hk => by have := h0 k hk; omega⟩
  | n + 1, m, h, hm => by
    by_cases e : ∃ k, S k ∧ m < k
    · obtain ⟨k, hk, hlt⟩ := e
      exact ex_max h0 n k hk (by omega)
    · exact ⟨m, h, fun k hk => Int.not_lt.1 fun hlt => e ⟨k, hk, hlt⟩⟩
theorem ex_mask (Q : Nat → Prop) : ∀ n : Nat, n ≤ 64 → ∃ d : Int, isU64 d ∧ ∀ j, tb d j = true ↔ j < n ∧ Q j
  | 0, _ => ⟨0, ⟨by omega, by omega⟩, fun j => by rw [tb_0]; simp⟩
  | n + 1, hn => by
    obtain ⟨d, hd, h⟩ := ex_mask Q n (by omega)
    by_cases hQ : Q n
    · have hp : isU64 ((2 : Int) ^ n) := by
        have h1 : (2 : Nat) ^ n < 2 ^ 64 := Nat.pow_lt_pow_right (by omega) (by omega)
        have h2 : ((2 : Int) ^ n) = ((2 ^ n : Nat) : Int) := by simp
        rw [h2]
        clear h2
        generalize (2 : Nat) ^ n = x at h1 ⊢
        exact ⟨by omega, by omega⟩
      refine ⟨bitsV .or .u64 d (2 ^ n), or_isU64 hd hp, fun j => ?_⟩
      rw [tb_or hd hp, Bool.or_eq_true, h, tb_pow, decide_eq_true_eq]
      constructor
      · rintro (⟨h1, h2⟩ | rfl)
        · exact ⟨by omega, h2⟩
        · exact ⟨by omega, hQ⟩
      · rintro ⟨h1, h2⟩
        by_cases e : n = j
        · exact .inr e
        · exact .inl ⟨by omega, h2⟩
    · refine ⟨d, hd, fun j => ?_⟩
      rw [h]
      constructor
      · rintro ⟨h1, h2⟩; exact ⟨by omega, h2⟩
      · rintro ⟨h1, h2⟩
        refine ⟨?_, h2⟩
        by_cases e : j = n
        · subst e; exact absurd h2 hQ
        · omega
theorem Clo.ex {S : Int → Prop} {B : Nat} (h0 : ∀ m, S m → 0 ≤ m ∧ m ≤ B) {m : Int} (hm : S m) : ∃ f t d l, Clo S f t d l := by
  obtain ⟨f, hf⟩ := ex_min (fun m h => (h0 m h).1) B m hm (h0 m hm).2
  obtain ⟨t, ht⟩ := ex_max (fun m h => (h0 m h).2) B m hm (by have := (h0 m hm).1; omega)
  obtain ⟨d, hd, hd2⟩ := ex_mask (fun j => ∃ m, S m ∧ wk m = j) 7 (by omega)
  obtain ⟨l, hl⟩ := Run.ex (fun k => ∃ m, S m ∧ m % 1440 = k) 1440
  refine ⟨f, t, d, l, hf, ht, hd, fun j => ?_, hl.c, fun k => ?_⟩
  · rw [hd2]
    constructor
    · exact fun h => h.2
    · rintro ⟨m, h1, rfl⟩
      exact ⟨by unfold wk; omega, m, h1, rfl⟩
  · rw [hl.s]
    constructor
    · exact fun h => h.1
    · rintro ⟨m, h1, rfl⟩
      exact ⟨⟨m, h1, rfl⟩, by omega, by omega⟩
theorem IsClosed.ex (a : Aut) (h0 : 0 ≤ a.fr) (h1 : a.to ≤ 67108864) : ∃ r, IsClosed a r := by
  by_cases hz : a.zones = 0
  · exact ⟨_, .inl ⟨.inl hz, rfl⟩⟩
  by_cases hl : a.lines = 0
  · exact ⟨_, .inl ⟨.inr (.inl hl), rfl⟩⟩
  by_cases hS : ∀ m, ¬ a.S m
  · exact ⟨_, .inl ⟨.inr (.inr hS), rfl⟩⟩
  · obtain ⟨m, hm⟩ := Classical.not_forall.1 hS
    obtain ⟨f, t, d, l, h⟩ := Clo.ex (S := a.S) (B := 67108864) (fun m h => ⟨Int.le_trans h0 h.1, Int.le_trans h.2.1 h1⟩) (Classical.not_not.1 hm)
    exact ⟨_, .inr ⟨hz, hl, f, t, d, l, h, rfl⟩⟩
theorem MeetR.ex (a b : Aut) : ∃ r, MeetR a b r := by
  by_cases h : bothA a b
  · have ga := h.1.rg h.2.2.1
    have gb := h.2.1.rg h.2.2.2
    have h1 := ga.f; have h2 := ga.t; have h3 := gb.f; have h4 := gb.t
    obtain ⟨r, hr⟩ := IsClosed.ex (midA a b) (by show 0 ≤ max a.fr b.fr; omega) (by show min a.to b.to ≤ 67108864; omega)
    exact ⟨r, .inr ⟨h, hr⟩⟩
  · exact ⟨_, .inl ⟨h, rfl⟩⟩
/-- valid, and small -/
def Vw (a : Aut) : Prop := VA a ∧ SmA a
theorem MeetR.vw {a b r : Aut} (h : MeetR a b r) (ha : a.wf) (hb : b.wf) : Vw r := h.ok ha hb
theorem Vw.wf {a : Aut} (h : Vw a) : a.wf := h.2.1
theorem MeetR.known {a b u v : Aut} (h : MeetR a b u) (ha : Vw a) (hb : Vw b) (hv : Vw v) (hi : ∀ c : Ctx, c.valid = true → (PE.inP v c ↔ PE.inP a c ∧ PE.inP b c)) : u = v :=
  VA.ext (h.vw ha.wf hb.wf).1 hv.1 (h.vw ha.wf hb.wf).wf hv.wf fun c hc => by rw [h.inP ha.1 hb.1 ha.wf hb.wf hc, hi c hc]
theorem MeetR.comm {a b u v : Aut} (h : MeetR a b u) (h' : MeetR b a v) (ha : Vw a) (hb : Vw b) : u = v :=
  h.known ha hb (h'.vw hb.wf ha.wf) fun c hc => by rw [h'.inP hb.1 ha.1 hb.wf ha.wf hc]; exact And.comm
theorem MeetR.assoc {a b c u v x y : Aut} (hu : MeetR a b u) (hx : MeetR u c x) (hv : MeetR b c v) (hy : MeetR a v y) (ha : Vw a) (hb : Vw b) (hc : Vw c) : x = y := by
  have vu := hu.vw ha.wf hb.wf
  have vv := hv.vw hb.wf hc.wf
  refine hx.known vu hc (hy.vw ha.wf vv.wf) fun k hk => ?_
  rw [hy.inP ha.1 vv.1 ha.wf vv.wf hk, hv.inP hb.1 hc.1 hb.wf hc.wf hk, hu.inP ha.1 hb.1 ha.wf hb.wf hk, and_assoc]
theorem MeetR.idem {a u : Aut} (h : MeetR a a u) (ha : Vw a) : u = a := h.known ha ha ha fun c _ => by simp
theorem fullA_inP {c : Ctx} (hc : c.valid = true) : PE.inP fullA c := by
  have h : IsOf [] fullA := by
    obtain ⟨r, hr⟩ := IsClosed.ex fullA (by decide) (by decide)
    have h1 := fullA_ok.1
    rcases h1 with h1 | ⟨_, _, h1⟩
    · exact absurd (congrArg Aut.none h1) (by decide)
    · exact ⟨fullA, OfI.nil, h1⟩
  exact (h.inP (by simp) (by simp) hc).2 (by simp)
theorem MeetR.full {a u : Aut} (h : MeetR a fullA u) (ha : Vw a) : u = a := h.known ha fullA_ok ha fun c hc => ⟨fun h => ⟨h, fullA_inP hc⟩, fun h => h.1⟩
theorem AMeetOK.eq {P : Program} {f g : Nat} (h : AMeetOK P f g) {a b u : Aut} (ha : a.wf) (hb : b.wf) (hu : MeetR a b u) {H : Nat → Option (List Value)} {nx : Nat} (hg : H g = some bitsRow) (hgn : g < nx) :
    PCalls P f [a.v, b.v] H nx (fun _ => False) (fun r H' _ => r = u.v ∧ H' = H) :=
  (h a b ha hb H nx hg hgn).mono fun p H' nx' ⟨⟨r', h1, h2⟩, h3⟩ => ⟨by rw [h1, h2.uniq hu], h3⟩
end Go.PE
namespace Go.PE
open Go
def law08_AuthorityLattice_BC (f_law08_made : Nat) (t_api_Span : Nat) (f_authority_Meet : Nat) (f_ref06_SameAuthority : Nat) (f_authority_Full : Nat) (f_law08_awake : Nat) : PC :=
 (.seq (.reg [(some 4, none, .mv (.const (.bool false)))]) (.seq (.reg [(some 12, none, .mv (.tmp 0)), (some 13, none, .call f_law08_made [(.tmp 12)]), (some 11, none, .steal 13), (some 14, none, .extr 11 0), (some 15, none, .extr 11 1), (some 16, none, .extr 11 2), (some 5, none, .alloc [(.bool false), (.int .u64 0), (.int .u64 0), (.int .u64 0), (.int .i64 0), (.int .i64 0), (lin t_api_Span []), (.string ⟨#[]⟩)]), (some 6, none, .alloc [(.bool false), (.int .u64 0), (.int .u64 0), (.int .u64 0), (.int .i64 0), (.int .i64 0), (lin t_api_Span []), (.string ⟨#[]⟩)]), (none, none, .st 8 (.tmp 5) (.tmp 14)), (none, none, .st 8 (.tmp 6) (.tmp 15)), (some 7, none, .mv (.tmp 16))]) (.seq (.reg [(some 18, none, .mv (.tmp 1)), (some 19, none, .call f_law08_made [(.tmp 18)]), (some 17, none, .steal 19), (some 20, none, .extr 17 0), (some 21, none, .extr 17 1), (some 22, none, .extr 17 2), (some 8, none, .alloc [(.bool false), (.int .u64 0), (.int .u64 0), (.int .u64 0), (.int .i64 0), (.int .i64 0), (lin t_api_Span []), (.string ⟨#[]⟩)]), (some 9, none, .alloc [(.bool false), (.int .u64 0), (.int .u64 0), (.int .u64 0), (.int .i64 0), (.int .i64 0), (lin t_api_Span []), (.string ⟨#[]⟩)]), (none, none, .st 8 (.tmp 8) (.tmp 20)), (none, none, .st 8 (.tmp 9) (.tmp 21)), (some 10, none, .mv (.tmp 22))]) (.seq (.mon [(some 23, none, .ldA 8 (.tmp 5)), (some 24, none, .ldA 8 (.tmp 6)), (some 25, none, .call f_authority_Meet [(.tmp 23), (.tmp 24)]), (some 26, none, .ldA 8 (.tmp 6)),
 (some 27, none, .ldA 8 (.tmp 5)), (some 28, none, .call f_authority_Meet [(.tmp 26), (.tmp 27)]), (some 29, none, .call f_ref06_SameAuthority [(.tmp 25), (.tmp 28)]), (some 30, none, .mv (.tmp 29)), (some 31, some (30, true), .ldA 8 (.tmp 5)), (some 32, some (30, true), .ldA 8 (.tmp 6)), (some 33, some (30, true), .call f_authority_Meet [(.tmp 31), (.tmp 32)]), (some 34, some (30, true), .ldA 8 (.tmp 8)), (some 35, some (30, true), .call f_authority_Meet [(.tmp 33), (.tmp 34)]), (some 36, some (30, true), .ldA 8 (.tmp 5)), (some 37, some (30, true), .ldA 8 (.tmp 6)), (some 38, some (30, true), .ldA 8 (.tmp 8)), (some 39, some (30, true), .call f_authority_Meet [(.tmp 37), (.tmp 38)]), (some 40, some (30, true), .call f_authority_Meet [(.tmp 36), (.tmp 39)]), (some 41, some (30, true), .call f_ref06_SameAuthority [(.tmp 35), (.tmp 40)]), (some 42, none, .pick (.tmp 30) (.tmp 41) (.const (.bool false))), (some 43, none, .mv (.tmp 42)), (some 44, some (43, true), .ldA 8 (.tmp 5)), (some 45, some (43, true), .ldA 8 (.tmp 5)), (some 46, some (43, true), .call f_authority_Meet [(.tmp 44), (.tmp 45)]), (some 47, some (43, true), .ldA 8 (.tmp 5)), (some 48, some (43, true), .call f_ref06_SameAuthority [(.tmp 46), (.tmp 47)]), (some 49, none, .pick (.tmp 43) (.tmp 48) (.const (.bool false))), (some 50, none, .mv (.tmp 49)), (some 51, some (50, true), .ldA 8 (.tmp 5)), (some 52, some (50, true), .call f_authority_Full []), (some 53, some (50, true), .call f_authority_Meet [(.tmp 51),
 (.tmp 52)]), (some 54, some (50, true), .ldA 8 (.tmp 5)), (some 55, some (50, true), .call f_ref06_SameAuthority [(.tmp 53), (.tmp 54)]), (some 56, none, .pick (.tmp 50) (.tmp 55) (.const (.bool false))), (some 57, none, .mv (.tmp 56)), (some 58, some (57, true), .call f_law08_awake []), (some 59, none, .pick (.tmp 57) (.tmp 58) (.const (.bool false))), (some 4, none, .mv (.tmp 59))]) .ret))))
def law08_AuthorityMeet_BC_j1 (f_law08_awake : Nat) (t_api_Span : Nat) (f_authority_Meet : Nat) (f_ref06_Meet : Nat) (f_ref06_SameAuthority : Nat) (f_authority_Contains : Nat) : PC :=
 (.seq (.reg [(some 30, none, .ldA 8 (.tmp 7)), (some 31, none, .ldA 8 (.tmp 8)), (some 32, none, .call f_authority_Meet [(.tmp 30), (.tmp 31)]), (some 12, none, .alloc [(.bool false), (.int .u64 0), (.int .u64 0), (.int .u64 0), (.int .i64 0), (.int .i64 0), (lin t_api_Span []), (.string ⟨#[]⟩)]), (none, none, .st 8 (.tmp 12) (.tmp 32))]) (.seq (.mon [(some 33, none, .ldA 8 (.tmp 12)), (some 34, none, .ldA 8 (.tmp 7)), (some 35, none, .ldA 8 (.tmp 8)), (some 36, none, .call f_ref06_Meet [(.tmp 34), (.tmp 35)]), (some 37, none, .call f_ref06_SameAuthority [(.tmp 33), (.tmp 36)]), (some 38, none, .mv (.tmp 37)), (some 39, some (38, true), .ldA 8 (.tmp 12)), (some 40, some (38, true), .ldA 4 (.tmp 10)), (some 41, some (38, true), .call f_authority_Contains [(.tmp 39), (.tmp 40)]), (some 42, some (38, true), .ldA 8 (.tmp 7)), (some 43, some (38, true), .ldA 4 (.tmp 10)), (some 44, some (38, true), .call f_authority_Contains [(.tmp 42), (.tmp 43)]), (some 45, some (38, true), .mv (.tmp 44)), (some 46, some (45, true), .ldA 8 (.tmp 8)), (some 47, some (45, true), .ldA 4 (.tmp 10)), (some 48, some (45, true), .call f_authority_Contains [(.tmp 46), (.tmp 47)]), (some 49, some (38, true), .pick (.tmp 45) (.tmp 48) (.const (.bool false))), (some 50, some (38, true), .bb false (.tmp 41) (.tmp 49)), (some 51, none, .pick (.tmp 38) (.tmp 50) (.const (.bool false))), (some 52, none, .mv (.tmp 51)), (some 53, some (52, true), .ldA 8 (.tmp 3)), (some 54, some (52, true), .ldA 8 (.tmp 7)),
 (some 55, some (52, true), .call f_authority_Meet [(.tmp 53), (.tmp 54)]), (some 56, some (52, true), .ldA 8 (.tmp 3)), (some 57, some (52, true), .ldA 8 (.tmp 7)), (some 58, some (52, true), .call f_ref06_Meet [(.tmp 56), (.tmp 57)]), (some 59, some (52, true), .call f_ref06_SameAuthority [(.tmp 55), (.tmp 58)]), (some 60, none, .pick (.tmp 52) (.tmp 59) (.const (.bool false))), (some 61, none, .mv (.tmp 60)), (some 62, some (61, true), .ldA 8 (.tmp 7)), (some 63, some (61, true), .ldA 8 (.tmp 11)), (some 64, some (61, true), .call f_authority_Meet [(.tmp 62), (.tmp 63)]), (some 65, some (61, true), .ldA 8 (.tmp 7)), (some 66, some (61, true), .ldA 8 (.tmp 11)), (some 67, some (61, true), .call f_ref06_Meet [(.tmp 65), (.tmp 66)]), (some 68, some (61, true), .call f_ref06_SameAuthority [(.tmp 64), (.tmp 67)]), (some 69, none, .pick (.tmp 61) (.tmp 68) (.const (.bool false))), (some 70, none, .mv (.tmp 69)), (some 71, some (70, true), .call f_law08_awake []), (some 72, none, .pick (.tmp 70) (.tmp 71) (.const (.bool false))), (some 6, none, .mv (.tmp 72))]) .ret))
def law08_AuthorityMeet_BC_j2 (f_law08_awake : Nat) (f_law08_made : Nat) (t_api_Span : Nat) (f_made_Deck_Context : Nat) (f_made_New : Nat) (f_law08_spoilt : Nat) (f_authority_Meet : Nat) (f_ref06_Meet : Nat) (f_ref06_SameAuthority : Nat) (f_authority_Contains : Nat) : PC :=
 (.seq (.reg [(some 19, none, .mv (.tmp 1)), (some 20, none, .call f_law08_made [(.tmp 19)]), (some 18, none, .steal 20), (some 21, none, .extr 18 0), (some 22, none, .extr 18 1), (some 23, none, .extr 18 2), (some 7, none, .alloc [(.bool false), (.int .u64 0), (.int .u64 0), (.int .u64 0), (.int .i64 0), (.int .i64 0), (lin t_api_Span []), (.string ⟨#[]⟩)]), (some 8, none, .alloc [(.bool false), (.int .u64 0), (.int .u64 0), (.int .u64 0), (.int .i64 0), (.int .i64 0), (lin t_api_Span []), (.string ⟨#[]⟩)]), (none, none, .st 8 (.tmp 7) (.tmp 21)), (none, none, .st 8 (.tmp 8) (.tmp 22)), (some 9, none, .mv (.tmp 23))]) (.seq (.reg [(some 24, none, .mv (.tmp 9)), (some 25, none, .call f_made_Deck_Context [(.tmp 24)]), (some 10, none, .alloc [(.int .i64 0), (.int .i64 0), (.int .i64 0), (.string ⟨#[]⟩)]), (none, none, .st 4 (.tmp 10) (.tmp 25))]) (.seq (.ord (.one (some 27, none, .mv (.tmp 2)) (.alt (.one (some 26, none, .ldA 8 (.tmp 8)) (.alt (.one (some 28, none, .call f_made_New [(.tmp 27)]) (.alt (.one (some 29, none, .call f_law08_spoilt [(.tmp 26), (.tmp 28)]) (.one (some 11, none, .alloc [(.bool false), (.int .u64 0), (.int .u64 0), (.int .u64 0), (.int .i64 0), (.int .i64 0), (lin t_api_Span []), (.string ⟨#[]⟩)]) (.one (none, none, .st 8 (.tmp 11) (.tmp 29)) .done))) (.one (some 11, none, .alloc [(.bool false), (.int .u64 0), (.int .u64 0), (.int .u64 0), (.int .i64 0), (.int .i64 0), (lin t_api_Span []), (.string ⟨#[]⟩)])
 (.one (some 29, none, .call f_law08_spoilt [(.tmp 26), (.tmp 28)]) (.one (none, none, .st 8 (.tmp 11) (.tmp 29)) .done))))) (.one (some 11, none, .alloc [(.bool false), (.int .u64 0), (.int .u64 0), (.int .u64 0), (.int .i64 0), (.int .i64 0), (lin t_api_Span []), (.string ⟨#[]⟩)]) (.one (some 28, none, .call f_made_New [(.tmp 27)]) (.one (some 29, none, .call f_law08_spoilt [(.tmp 26), (.tmp 28)]) (.one (none, none, .st 8 (.tmp 11) (.tmp 29)) .done)))))) (.alt (.one (some 28, none, .call f_made_New [(.tmp 27)]) (.alt (.one (some 26, none, .ldA 8 (.tmp 8)) (.alt (.one (some 29, none, .call f_law08_spoilt [(.tmp 26), (.tmp 28)]) (.one (some 11, none, .alloc [(.bool false), (.int .u64 0), (.int .u64 0), (.int .u64 0), (.int .i64 0), (.int .i64 0), (lin t_api_Span []), (.string ⟨#[]⟩)]) (.one (none, none, .st 8 (.tmp 11) (.tmp 29)) .done))) (.one (some 11, none, .alloc [(.bool false), (.int .u64 0), (.int .u64 0), (.int .u64 0), (.int .i64 0), (.int .i64 0), (lin t_api_Span []), (.string ⟨#[]⟩)]) (.one (some 29, none, .call f_law08_spoilt [(.tmp 26), (.tmp 28)]) (.one (none, none, .st 8 (.tmp 11) (.tmp 29)) .done))))) (.one (some 11, none, .alloc [(.bool false), (.int .u64 0), (.int .u64 0), (.int .u64 0), (.int .i64 0), (.int .i64 0), (lin t_api_Span []), (.string ⟨#[]⟩)]) (.one (some 26, none, .ldA 8 (.tmp 8)) (.one (some 29, none, .call f_law08_spoilt [(.tmp 26), (.tmp 28)]) (.one (none, none, .st 8 (.tmp 11) (.tmp 29)) .done)))))) (.one (some 11, none, .alloc [(.bool false),
 (.int .u64 0), (.int .u64 0), (.int .u64 0), (.int .i64 0), (.int .i64 0), (lin t_api_Span []), (.string ⟨#[]⟩)]) (.alt (.one (some 26, none, .ldA 8 (.tmp 8)) (.one (some 28, none, .call f_made_New [(.tmp 27)]) (.one (some 29, none, .call f_law08_spoilt [(.tmp 26), (.tmp 28)]) (.one (none, none, .st 8 (.tmp 11) (.tmp 29)) .done)))) (.one (some 28, none, .call f_made_New [(.tmp 27)]) (.one (some 26, none, .ldA 8 (.tmp 8)) (.one (some 29, none, .call f_law08_spoilt [(.tmp 26), (.tmp 28)]) (.one (none, none, .st 8 (.tmp 11) (.tmp 29)) .done)))))))))) (law08_AuthorityMeet_BC_j1 f_law08_awake t_api_Span f_authority_Meet f_ref06_Meet f_ref06_SameAuthority f_authority_Contains))))
def law08_AuthorityMeet_BC (f_law08_awake : Nat) (f_law08_made : Nat) (t_api_Span : Nat) (f_made_Deck_Context : Nat) (f_made_New : Nat) (f_law08_spoilt : Nat) (f_authority_Meet : Nat) (f_ref06_Meet : Nat) (f_ref06_SameAuthority : Nat) (f_authority_Contains : Nat) : PC :=
 (.seq (.reg [(some 3, none, .box 8 (.tmp 0)), (some 6, none, .mv (.const (.bool false)))]) (.seq (.seq (.reg [(some 13, none, .fa 6 (.tmp 3)), (some 14, none, .ld false (.tmp 13)), (some 15, none, .len (.tmp 14)), (some 16, none, .bi .gtr (.tmp 15) (.const (.int .i64 60)))]) (.cond (.tmp 16) (.seq (.reg [(some 17, none, .call f_law08_awake []), (some 6, none, .mv (.tmp 17))]) .ret) .skip)) (law08_AuthorityMeet_BC_j2 f_law08_awake f_law08_made t_api_Span f_made_Deck_Context f_made_New f_law08_spoilt f_authority_Meet f_ref06_Meet f_ref06_SameAuthority f_authority_Contains)))
end Go.PE
namespace Go.PE
open Go
theorem Vw.n {a : Aut} (h : Vw a) : a.daily.length ≤ maxLen := by
  have hmx : (maxLen : Int) = 9223372036854775807 := rfl
  have := h.wf.n
  omega
theorem authorityLattice_ok {P : Program} {f g ma me sa fu aw tS : Nat} (hc : compFnX P [3000000] f = some (60, law08_AuthorityLattice_BC ma tS me sa fu aw, [.t 4])) (hma : MadeOK P ma) (hme : AMeetOK P me g) (hsa : SameAOK P sa) (hfu : FullOK P fu) (haw : Aw08OK P aw g)
    (l how : List Int) (hl : l.length ≤ maxLen) (hh : how.length ≤ maxLen) (H : Nat → Option (List Value)) (nx : Nat) (hg : H g = some bitsRow) (hgn : g < nx) :
    PCalls P f [deep (l.map (.int .i64)), deep (how.map (.int .i64))] H nx (fun _ => False) (fun r H' _ => r = .bool true) := by
  refine PCalls_ofX hc (by simp) fun hw => ?_
  have hmx : (maxLen : Int) = 9223372036854775807 := rfl
  simp [law08_AuthorityLattice_BC]
  refine wCall_le (hma l hl _ _) fun r H1 n1 hR hn1 _ => ?_
  obtain ⟨a, b, nd, at1, rfl, hA, hB, hnd, hnd2, hat1, rfl⟩ := hR
  simp at hn1 hnd hnd2
  have g1 : ¬ g = nd := by omega
  have g2 : ¬ g = n1 := by omega
  have g3 : ¬ g = n1 + 1 := by omega
  have a1 : ¬ n1 = n1 + 1 := by omega
  have a2 : ¬ n1 + 1 = n1 := by omega
  have p1 : nx ≤ n1 := by omega
  have p2 : nx ≤ n1 + 1 := by omega
  simp [a1, a2, p1, p2]
  refine wCall_le (hma how hh _ _) fun r H1 n2 hR hn2 _ => ?_
  obtain ⟨c, c', nd2, at2, rfl, hC, hC', hnd3, hnd4, hat2, rfl⟩ := hR
  simp at hn2 hnd3 hnd4
  have g4 : ¬ g = nd2 := by omega
  have g5 : ¬ g = n2 := by omega
  have g6 : ¬ g = n2 + 1 := by omega
  have a3 : ¬ n2 = n2 + 1 := by omega
  have a4 : ¬ n2 + 1 = n2 := by omega
  have a5 : ¬ n1 = n2 := by omega
  have a6 : ¬ n1 = n2 + 1 := by omega
  have a7 : ¬ n1 + 1 = n2 := by omega
  have a8 : ¬ n1 + 1 = n2 + 1 := by omega
  have a9 : ¬ n1 = nd2 := by omega
  have a10 : ¬ n1 + 1 = nd2 := by omega
  have a11 : ¬ n2 = n1 := by omega
  have a12 : ¬ n2 = n1 + 1 := by omega
  have a13 : ¬ n2 + 1 = n1 := by omega
  have a14 : ¬ n2 + 1 = n1 + 1 := by omega
  have p3 : nx ≤ n2 := by omega
  have p4 : nx ≤ n2 + 1 := by omega
  have vA : Vw a := hA.ok
  have vB : Vw b := hB.ok
  have vC : Vw c := hC.ok
  obtain ⟨u, hu⟩ := MeetR.ex a b
  have vu := hu.vw vA.wf vB.wf
  obtain ⟨u', hu'⟩ := MeetR.ex b a
  obtain rfl := hu.comm hu' vA vB
  obtain ⟨x, hx⟩ := MeetR.ex u c
  have vx := hx.vw vu.wf vC.wf
  obtain ⟨v, hv⟩ := MeetR.ex b c
  have vv := hv.vw vB.wf vC.wf
  obtain ⟨y, hy⟩ := MeetR.ex a v
  obtain rfl := hu.assoc hx hv hy vA vB vC
  obtain ⟨i, hi⟩ := MeetR.ex a a
  obtain rfl := hi.idem vA
  obtain ⟨j, hj⟩ := MeetR.ex i fullA
  obtain rfl := hj.full vA
  have met : ∀ {a b u : Aut} {s : PS} {d : Option Nat} {K : PS → Prop}, a.wf → b.wf → MeetR a b u → s.H g = some bitsRow → g < s.nx → K ⟨(s.putO d u.v).t, s.H, s.nx⟩ → wmCall (PCalls P) me [a.v, b.v] d s K :=
    fun ha hb hm hg hgn hK => wmCall_of _ (fun n H2 hn hH => hme.eq ha hb hm (hH _ _ hg) (by omega)) hK
  have sam : ∀ {a : Aut} {s : PS} {d : Option Nat} {K : PS → Prop}, Vw a → K ⟨(s.putO d (.bool true)).t, s.H, s.nx⟩ → wmCall (PCalls P) sa [a.v, a.v] d s K :=
    fun {a s d K} ha hK => wmCall_of _ (fun n H2 hn hH => by have := hsa a a ha.n ha.n H2 n; simpa using this) hK
  have hgn2 : g < n2 + 1 + 1 := by omega
  simp [a1, a2, a3, a4, a5, a6, a7, a8, a9, a10, a11, a12, a13, a14, p1, p2, p3, p4, Aut.ag]
  refine met vA.wf vB.wf hu (by simp [g1, g2, g3, g4, g5, g6, hg]) hgn2 ?_
  simp [a1, a2, a3, a4, a5, a6, a7, a8, a9, a10, a11, a12, a13, a14, p1, p2, p3, p4, Aut.ag]
  refine met vB.wf vA.wf hu' (by simp [g1, g2, g3, g4, g5, g6, hg]) hgn2 ?_
  simp [a1, a2, a3, a4, a5, a6, a7, a8, a9, a10, a11, a12, a13, a14, p1, p2, p3, p4, Aut.ag]
  refine sam vu ?_
  simp [a1, a2, a3, a4, a5, a6, a7, a8, a9, a10, a11, a12, a13, a14, p1, p2, p3, p4, Aut.ag]
  refine met vA.wf vB.wf hu (by simp [g1, g2, g3, g4, g5, g6, hg]) hgn2 ?_
  simp [a1, a2, a3, a4, a5, a6, a7, a8, a9, a10, a11, a12, a13, a14, p1, p2, p3, p4, Aut.ag]
  refine met vu.wf vC.wf hx (by simp [g1, g2, g3, g4, g5, g6, hg]) hgn2 ?_
  simp [a1, a2, a3, a4, a5, a6, a7, a8, a9, a10, a11, a12, a13, a14, p1, p2, p3, p4, Aut.ag]
  refine met vB.wf vC.wf hv (by simp [g1, g2, g3, g4, g5, g6, hg]) hgn2 ?_
  simp [a1, a2, a3, a4, a5, a6, a7, a8, a9, a10, a11, a12, a13, a14, p1, p2, p3, p4, Aut.ag]
  refine met vA.wf vv.wf hy (by simp [g1, g2, g3, g4, g5, g6, hg]) hgn2 ?_
  simp [a1, a2, a3, a4, a5, a6, a7, a8, a9, a10, a11, a12, a13, a14, p1, p2, p3, p4, Aut.ag]
  refine sam vx ?_
  simp [a1, a2, a3, a4, a5, a6, a7, a8, a9, a10, a11, a12, a13, a14, p1, p2, p3, p4, Aut.ag]
  refine met vA.wf vA.wf hi (by simp [g1, g2, g3, g4, g5, g6, hg]) hgn2 ?_
  simp [a1, a2, a3, a4, a5, a6, a7, a8, a9, a10, a11, a12, a13, a14, p1, p2, p3, p4, Aut.ag]
  refine sam vA ?_
  simp [a1, a2, a3, a4, a5, a6, a7, a8, a9, a10, a11, a12, a13, a14, p1, p2, p3, p4, Aut.ag]
  refine wmCall_of fullA.v (fun n H2 hn hH => hfu H2 n) ?_
  simp [a1, a2, a3, a4, a5, a6, a7, a8, a9, a10, a11, a12, a13, a14, p1, p2, p3, p4, Aut.ag]
  refine met vA.wf fullA_ok.2.1 hj (by simp [g1, g2, g3, g4, g5, g6, hg]) hgn2 ?_
  simp [a1, a2, a3, a4, a5, a6, a7, a8, a9, a10, a11, a12, a13, a14, p1, p2, p3, p4, Aut.ag]
  refine sam vA ?_
  simp [a1, a2, a3, a4, a5, a6, a7, a8, a9, a10, a11, a12, a13, a14, p1, p2, p3, p4, Aut.ag]
  refine wmCall_of (.bool true) (fun n H2 hn hH => haw H2 n (hH _ _ (by simp [g1, g2, g3, g4, g5, g6, hg])) (Nat.lt_of_lt_of_le hgn2 hn)) ?_
  simp
  intro n hn
  exact wF_of rfl
end Go.PE
namespace Go.PE
open Go
/-- the minutes up to k are those of both -/
def mTo (m u : Nat → Bool) (k : Nat) : Nat → Bool := fun j => if j < k then m j && u j else m j
theorem mTo_0 (m u : Nat → Bool) : mTo m u 0 = m := funext fun j => by simp [mTo]
theorem mTo_at (m u : Nat → Bool) (k : Nat) : mTo m u k k = m k := by simp [mTo]
theorem mTo_succ (m u : Nat → Bool) (k : Nat) : upd (mTo m u k) k (m k && u k) = mTo m u (k + 1) := funext fun j => by
  unfold mTo
  by_cases e : j = k
  · subst e; rw [upd_same, if_pos (by omega)]
  · rw [upd_ne _ _ e]
    by_cases h : j < k
    · rw [if_pos h, if_pos (by omega)]
    · rw [if_neg h, if_neg (by omega)]
def RMeetOK (P : Program) (f : Nat) : Prop := ∀ (a b : Aut), a.wf → b.wf → ∀ (H : Nat → Option (List Value)) (nx : Nat), PCalls P f [a.v, b.v] H nx (fun _ => False) (fun r H' _ => (∃ r', r = r'.v ∧ MeetR a b r') ∧ H' = H)
section
variable {P : Program} {cl tm : Nat} (hcl : RClosedOK P cl)
include hcl in
theorem rm_j2 {C : Aut} {t : Tms} {R : Aut → Prop} {nx kt kc : Nat} {H : Nat → Option (List Value)} {c : List Value} {s : PS} (hw : ∀ k, nx ≤ k → H k = none) (hcn : C.none = false) (ht : WfT t) (e4 : s.t 4 = ptr (nx + 1 + 1) 0) (e5 : s.t 5 = ptr kc 0) (e6 : s.t 6 = ptr kt 0)
    (h2 : s.H (nx + 1 + 1) = some c) (hc8 : c.length = 8) (hC : s.H kc = some C.cells) (hT : s.H kt = some t.cells) (hown : Own nx H s.H) (hkt : kt < s.nx)
    (hno : (C.zones = 0 ∨ C.lines = 0 ∨ t.to < t.fr) → R noneA) (hyes : C.zones ≠ 0 → C.lines ≠ 0 → t.fr ≤ t.to → ∀ r, RClosed C t r → R r) :
    wpc (PCalls P) P (fun _ => False) nx (ref06_MeetC_j2 cl) (fin nx [RV.cA 4 8] fun r H' _ => (∃ r', r = r'.v ∧ R r') ∧ H' = H) s := by
  obtain ⟨T, H2, nx2⟩ := s
  simp only at e4 e5 e6 h2 hC hT hown hkt
  have q1 : nx ≤ nx + 1 + 1 := by omega
  have hd : List.drop 8 c = [] := List.drop_of_length_le (by omega)
  have bad : ∀ {H3 : Nat → Option (List Value)} {n2 : Nat}, R noneA → Own nx H H3 → wF (some [ag noneA.cells]) nx (fun r H' _ => (∃ r', r = r'.v ∧ R r') ∧ H' = H) H3 n2 := fun {H2 n2} hr ho => wF_own hw ho ⟨⟨noneA, rfl, hr⟩, rfl⟩
  by_cases c1 : C.zones = 0
  · simp [ref06_MeetC_j2, e4, e5, e6, h2, hC, hT, hc8, c1, hd, q1]
    refine bad (hno (.inl c1)) ?_
    rw [own_upd (by omega)]; exact hown
  have c1' : (C.zones == 0) = false := by simp [c1]
  by_cases c2 : C.lines = 0
  · simp [ref06_MeetC_j2, e4, e5, e6, h2, hC, hT, hc8, c1', c2, hd, q1]
    refine bad (hno (.inr (.inl c2))) ?_
    rw [own_upd (by omega)]; exact hown
  have c2' : (C.lines == 0) = false := by simp [c2]
  by_cases c3 : t.to < t.fr
  · simp [ref06_MeetC_j2, e4, e5, e6, h2, hC, hT, hc8, c1', c2', c3, hd, q1]
    refine bad (hno (.inr (.inr c3))) ?_
    rw [own_upd (by omega)]; exact hown
  · simp [ref06_MeetC_j2, e4, e5, e6, h2, hC, hT, hc8, c1', c2', c3, hd, q1, Aut.ag]
    refine wCall_eq (Q := fun r => ∃ r', r = r'.v ∧ RClosed C t r') (hcl C t kt hcn ht _ _ hT hkt) fun r n3 hr hn3 => ?_
    obtain ⟨r', rfl, hr'⟩ := hr
    simp [e4, h2, hc8, hd, q1]
    refine wF_own hw ?_ ⟨⟨r', rfl, hyes c1 c2 (by omega) r' hr'⟩, rfl⟩
    rw [own_upd (by omega)]; exact hown
theorem rm_j1 {t u : Tms} {kt ku nx0 k : Nat} {s : PS} {Q : Ex → PS → Prop} (hk : k < 1440) (hkt : nx0 ≤ kt) (hne : ¬ ku = kt) (e6 : s.t 6 = ptr kt 0) (e7 : s.t 7 = ptr ku 0) (e8 : s.t 8 = .int .i64 k) (hu : s.H ku = some u.cells) (ht : s.H kt = some { t with m := mTo t.m u.m k : Tms }.cells)
    (hK : ∀ t', (∀ u, u < 8 → t' u = s.t u) → t' 8 = .int .i64 (k + 1 : Nat) → Q .nrm ⟨t', upd s.H kt (some { t with m := mTo t.m u.m (k + 1) : Tms }.cells), s.nx⟩) :
    wpc (PCalls P) P (fun _ => False) nx0 ref06_MeetC_j1 Q s := by
  obtain ⟨T, H, nx⟩ := s
  simp only at e6 e7 e8 hu ht hK
  have hw := w64 (x := (k : Int) + 1) (by omega) (by omega)
  have hg := Tms.get3 { t with m := mTo t.m u.m k : Tms } hk
  have hgu := Tms.get3 u hk
  have hset := Tms.set3 { t with m := mTo t.m u.m k : Tms } (t.m k && u.m k) hk
  have hat : mTo t.m u.m k k = t.m k := mTo_at _ _ _
  simp only [hat] at hg
  have h2 : { t with m := mTo t.m u.m k : Tms }.cells.take (3 + k) ++ Value.bool (t.m k && u.m k) :: { t with m := mTo t.m u.m k : Tms }.cells.drop (3 + k + 1) = { t with m := mTo t.m u.m (k + 1) : Tms }.cells := by
    rw [hset]
    simp only [mTo_succ t.m u.m k]
  cases hm : t.m k with
  | false =>
    simp [hm] at h2
    simp [ref06_MeetC_j1, e6, e7, e8, hu, ht, hg, hgu, hm, hk, show (k : Int) < 1440 by omega, hw, hkt, show 3 + k + 1 ≤ 1443 by omega, h2]
    exact hK _ (kp8 rfl rfl rfl rfl rfl rfl rfl rfl) (by simp)
  | true =>
    simp [hm] at h2
    simp [ref06_MeetC_j1, e6, e7, e8, hu, ht, hg, hgu, hm, hk, show (k : Int) < 1440 by omega, hw, hkt, show 3 + k + 1 ≤ 1443 by omega, h2]
    exact hK _ (kp8 rfl rfl rfl rfl rfl rfl rfl rfl) (by simp)
include hcl in
theorem rm_j3 {C : Aut} {t u : Tms} {R : Aut → Prop} {nx kt ku kc : Nat} {H : Nat → Option (List Value)} {c : List Value} {s : PS} (hw : ∀ k, nx ≤ k → H k = none) (hcn : C.none = false) (ht : WfT t) (hu : WfT u) (e4 : s.t 4 = ptr (nx + 1 + 1) 0) (e5 : s.t 5 = ptr kc 0) (e6 : s.t 6 = ptr kt 0) (e7 : s.t 7 = ptr ku 0)
    (h2 : s.H (nx + 1 + 1) = some c) (hc8 : c.length = 8) (hC : s.H kc = some C.cells) (hT : s.H kt = some t.cells) (hU : s.H ku = some u.cells) (hown : Own nx H s.H) (hkt : kt < s.nx) (hnt : nx + 1 + 1 < kc) (hct : kc < kt) (htu : kt < ku)
    (hno : (C.zones = 0 ∨ C.lines = 0 ∨ min t.to u.to < max t.fr u.fr) → R noneA) (hyes : C.zones ≠ 0 → C.lines ≠ 0 → ∀ r, RClosed C ⟨max t.fr u.fr, min t.to u.to, bitsV .and .u64 t.days u.days, mTo t.m u.m 1440⟩ r → R r) :
    wpc (PCalls P) P (fun _ => False) nx (ref06_MeetC_j3 cl) (fin nx [RV.cA 4 8] fun r H' _ => (∃ r', r = r'.v ∧ R r') ∧ H' = H) s := by
  obtain ⟨T, H2, nx2⟩ := s
  simp only at e4 e5 e6 e7 h2 hC hT hU hown hkt
  have q1 : nx ≤ nx + 1 + 1 := by omega
  have q2 : nx ≤ kt := by omega
  have b1 : ¬ ku = kt := by omega
  have b2 : ¬ kc = kt := by omega
  have b3 : ¬ nx + 1 + 1 = kt := by omega
  have hm1 : ∀ u v : Int, (if u < v then v else u) = max u v := fun u v => by split <;> omega
  have hm2 : ∀ u v : Int, (if v < u then v else u) = min u v := fun u v => by split <;> omega
  simp [ref06_MeetC_j3, e4, e5, e6, e7, h2, hC, hT, hU, b1, q2, hm1, hm2]
  obtain ⟨t0, ht0⟩ : ∃ t0 : Tms, t0 = ⟨max t.fr u.fr, min t.to u.to, bitsV .and .u64 t.days u.days, t.m⟩ := ⟨_, rfl⟩
  have hm0 : t0.m = t.m := by rw [ht0]
  have hb1 := ht.fb
  have hb2 := hu.fb
  have hW : ∀ m : Nat → Bool, WfT { t0 with m := m : Tms } := fun m => ⟨by rw [ht0]; exact and_isU64 ht.du hu.du, by rw [ht0]; show 0 ≤ max t.fr u.fr ∧ max t.fr u.fr ≤ 67108864 ∧ 0 ≤ min t.to u.to ∧ min t.to u.to ≤ 67108864; omega⟩
  have b4 : ¬ kt = ku := by omega
  refine wpc_loop _ _ _ _ _ _ (fun s => (∀ u, u < 8 → s.t u = T u) ∧ s.nx = nx2 ∧ ∃ k : Nat, k ≤ 1440 ∧ s.t 8 = .int .i64 k ∧ s.H = upd H2 kt (some { t0 with m := mTo t0.m u.m k : Tms }.cells))
    (fun s => match s.t 8 with | .int _ k => (1440 - k).toNat | _ => 0) _ ⟨kp8 rfl rfl rfl rfl rfl rfl rfl rfl, rfl, 0, by omega, by simp, by rw [mTo_0, ht0]; rfl⟩ ?_
  rintro s ⟨hTT, hn, k, hk, f8, hH⟩
  obtain ⟨T2, H3, n3⟩ := s
  simp only at hTT hn f8 hH
  subst hH; subst hn
  have f4 : T2 4 = ptr (nx + 1 + 1) 0 := (hTT 4 (by omega)).trans e4
  have f5 : T2 5 = ptr kc 0 := (hTT 5 (by omega)).trans e5
  have f6 : T2 6 = ptr kt 0 := (hTT 6 (by omega)).trans e6
  have f7 : T2 7 = ptr ku 0 := (hTT 7 (by omega)).trans e7
  simp [f8]
  refine wB_of (fun hlt => ?_) (fun hlt => ?_)
  · have hlt : k < 1440 := by simp at hlt; omega
    refine rm_j1 (t := t0) (u := u) (k := k) hlt q2 b1 (by simp [f6]) (by simp [f7]) (by simp [f8]) (by simp [b1, hU]) (by simp) fun t' h1 h2 => ?_
    refine kLoop_nrm _ _ _ _ (Sub_refl _ _) ⟨fun v hv => (h1 v hv).trans ?_, rfl, k + 1, by omega, h2, by simp⟩ (by simp [h2, f8]; omega)
    rw [← hTT v hv]
    simp [show ¬ v = 107 by omega, show ¬ v = 108 by omega]
  · have hk2 : k = 1440 := by simp at hlt; omega
    subst hk2
    refine rm_j2 hcl (kc := kc) (kt := kt) (C := C) (t := { t0 with m := mTo t0.m u.m 1440 : Tms }) hw hcn (hW _) (by simp [f4]) (by simp [f5]) (by simp [f6]) (by simp [b3, h2]) hc8 (by simp [b2, hC]) (by simp) (by simp only; rw [own_upd q2]; exact hown) hkt (fun h => hno ?_) (fun h1 h2 _ r hr => hyes h1 h2 r ?_)
    · rw [ht0] at h; exact h
    · rw [ht0] at hr; exact hr
end
theorem both_S {a b : Aut} {ma mb : Nat → Bool} (ha : isU64 a.days) (hb : isU64 b.days) (h1 : ∀ k : Nat, k < 1440 → (ma k = true ↔ inS a.daily k)) (h2 : ∀ k : Nat, k < 1440 → (mb k = true ↔ inS b.daily k)) (x : Int) :
    (Tms.mk (max a.fr b.fr) (min a.to b.to) (bitsV .and .u64 a.days b.days) (mTo ma mb 1440)).S x ↔ (midA a b).S x := by
  have hk : (x % 1440).toNat < 1440 := by omega
  have e1 := h1 _ hk
  have e2 := h2 _ hk
  rw [show (((x % 1440).toNat : Nat) : Int) = x % 1440 by omega] at e1 e2
  show (max a.fr b.fr ≤ x ∧ x ≤ min a.to b.to ∧ tb (bitsV .and .u64 a.days b.days) (wk x) = true ∧ mTo ma mb 1440 (x % 1440).toNat = true) ↔ (max a.fr b.fr ≤ x ∧ x ≤ min a.to b.to ∧ tb (bitsV .and .u64 a.days b.days) (wk x) = true ∧ inS (commonL a.daily b.daily) (x % 1440))
  rw [inS_common, ← e1, ← e2]
  unfold mTo
  rw [if_pos hk, Bool.and_eq_true]
theorem no_append (b : ByteArray) : noName ++ b = b := by
  apply ByteArray.ext
  simp [noName]
theorem append_no (b : ByteArray) : b ++ noName = b := by
  apply ByteArray.ext
  simp [noName]
theorem rmeet_ok {P : Program} {f tS ao tm cl : Nat} (hc : compFn P f = some (153, ref06_MeetC tS ao tm cl, [.cA 4 8])) (hao : AOkOK P ao) (htm : TimesOK P tm) (hcl : RClosedOK P cl) : RMeetOK P f := by
  intro a b hwa hwb H nx
  refine PCalls_of hc (by simp) fun hw => ?_
  have b1 : ¬ nx = nx + 1 + 1 := by omega
  have b2 : ¬ nx + 1 = nx + 1 + 1 := by omega
  have b3 : ¬ nx = nx + 1 := by omega
  have b4 : nx ≤ nx + 1 + 1 := by omega
  have b5 : nx ≤ nx + 1 := by omega
  have b6 : ¬ nx + 1 = nx := by omega
  have b7 : ¬ nx + 1 + 1 = nx := by omega
  have b8 : ¬ nx + 1 + 1 = nx + 1 := by omega
  have bad : ∀ {H2 : Nat → Option (List Value)} {n2 : Nat}, MeetR a b noneA → Own nx H H2 → wF (some [ag noneA.cells]) nx (fun r H' _ => (∃ r', r = r'.v ∧ MeetR a b r') ∧ H' = H) H2 n2 := fun {H2 n2} hr ho => wF_own hw ho ⟨⟨noneA, rfl, hr⟩, rfl⟩
  have hnone : (ag [.bool true, .int .u64 0, .int .u64 0, .int .u64 0, .int .i64 0, .int .i64 0, deep [], .string ⟨#[]⟩] : Value) = ag noneA.cells := rfl
  have nov : ∀ a : Aut, okA a = false → ¬ VA a := fun a h hV => by rw [(okA_iff a).2 hV] at h; cases h
  simp [ref06_MeetC, b1, b2, b3, b4, b5, b6, b7, b8, Aut.ag]
  refine wCall_eq (Q := fun r => r = .bool (okA a)) (hao a hwa _ _) fun r n1 hr hn1 => ?_
  subst hr
  simp at hn1
  cases ho : okA a with
  | false =>
    simp [b1, b2, b3, b4, b5, b6, b7, b8, hnone]
    exact bad (.inl ⟨fun h => nov a ho h.1, rfl⟩) (by simp [b4, b5])
  | true =>
  simp [b1, b2, b3, b4, b5, b6, b7, b8, Aut.ag]
  refine wCall_eq (Q := fun r => r = .bool (okA b)) (hao b hwb _ _) fun r n2 hr hn2 => ?_
  subst hr
  simp at hn2
  cases ho2 : okA b with
  | false =>
    simp [b1, b2, b3, b4, b5, b6, b7, b8, hnone]
    exact bad (.inl ⟨fun h => nov b ho2 h.2.1, rfl⟩) (by simp [b4, b5])
  | true =>
  cases hn : a.none with
  | true =>
    simp [b1, b2, b3, b4, b5, b6, b7, b8, hn, hnone]
    exact bad (.inl ⟨fun h => (by have := h.2.2.1; rw [hn] at this; cases this), rfl⟩) (by simp [b4, b5])
  | false =>
  cases hn2' : b.none with
  | true =>
    simp [b1, b2, b3, b4, b5, b6, b7, b8, hn, hn2', hnone]
    exact bad (.inl ⟨fun h => (by have := h.2.2.2; rw [hn2'] at this; cases this), rfl⟩) (by simp [b4, b5])
  | false =>
  have hB : bothA a b := ⟨(okA_iff a).1 ho, (okA_iff b).1 ho2, hn, hn2'⟩
  have ga := hB.1.rg hn
  have gb := hB.2.1.rg hn2'
  have d1 : ¬ n2 = nx := by omega
  have d2 : ¬ n2 = nx + 1 := by omega
  have d3 : ¬ n2 = nx + 1 + 1 := by omega
  have d4 : ¬ nx = n2 := by omega
  have d5 : ¬ nx + 1 = n2 := by omega
  have d6 : ¬ nx + 1 + 1 = n2 := by omega
  have d7 : nx ≤ n2 := by omega
  have tms : ∀ {a : Aut} {s : PS} {d : Option Nat} {K : PS → Prop}, rgA a → a.wf → (∀ m : Nat → Bool, (∀ k : Nat, k < 1440 → (m k = true ↔ inS a.daily k)) → K ⟨(s.putO d (ptr (s.nx + 1) 0)).t, upd s.H (s.nx + 1) (some (Tms.mk a.fr a.to a.days m).cells), s.nx + 1 + 1⟩) →
      wCall (PCalls P) (fun _ => False) nx tm [a.v] d s K := by
    intro a s d K hg hwf hK
    refine wCall_le (htm a hg.s.day hwf.n _ _) fun p H1 nx1 hR hn' hown1 => ?_
    obtain ⟨rfl, rfl, m, hm, rfl⟩ := hR
    exact hK m hm
  -- behind the tests: what the holder is is told
  have go : ∀ {T : Nat → Value} {hd : ByteArray}, ¬ (a.holder ≠ noName ∧ b.holder ≠ noName ∧ a.holder ≠ b.holder) → hd = (midA a b).holder → T 2 = ptr nx 0 → T 3 = ptr (nx + 1) 0 → T 4 = ptr (nx + 1 + 1) 0 → T 5 = ptr n2 0 →
      wpc (PCalls P) P (fun _ => False) nx (ref06_MeetC_j4 tm cl) (fin nx [RV.cA 4 8] fun r H' _ => (∃ r', r = r'.v ∧ MeetR a b r') ∧ H' = H) ⟨T, upd (upd (upd (upd H nx (some a.cells)) (nx + 1) (some b.cells)) (nx + 1 + 1) (some [.bool false, .int .u64 0, .int .u64 0, .int .u64 0, .int .i64 0, .int .i64 0, lin tS [], .string noName])) n2 (some (Aut.mk false (bitsV .and .u64 a.zones b.zones) (bitsV .and .u64 a.lines b.lines) 0 0 0 [] hd).cells), n2 + 1⟩ := by
    intro T hd hcf hhd f2 f3 f4 f5
    have z0 : (midA a b).zones = bitsV .and .u64 a.zones b.zones := if_neg hcf
    have e1 : ¬ n2 = n2 + 1 + 1 := by omega
    have e2 : ¬ nx = n2 + 1 + 1 := by omega
    have e3 : ¬ nx + 1 = n2 + 1 + 1 := by omega
    have e4 : ¬ nx + 1 + 1 = n2 + 1 + 1 := by omega
    have e5 : ¬ n2 = n2 + 1 + 1 + 1 + 1 := by omega
    have e6 : ¬ nx = n2 + 1 + 1 + 1 + 1 := by omega
    have e7 : ¬ nx + 1 = n2 + 1 + 1 + 1 + 1 := by omega
    have e8 : ¬ nx + 1 + 1 = n2 + 1 + 1 + 1 + 1 := by omega
    have e9 : ¬ n2 + 1 + 1 = n2 + 1 + 1 + 1 + 1 := by omega
    have e10 : ¬ nx = n2 + 1 := by omega
    have e11 : ¬ nx = n2 + 2 := by omega
    have e12 : ¬ nx = n2 + 3 := by omega
    have p1 : nx ≤ n2 + 1 + 1 := by omega
    have p2 : nx ≤ n2 + 1 + 1 + 1 + 1 := by omega
    simp [ref06_MeetC_j4, f2, f3, f4, f5, b1, b2, b3, b4, b5, b6, b7, b8, d1, d2, d3, d4, d5, d6, d7, Aut.ag]
    have last : ∀ {T2 : Nat → Value} {ma mb : Nat → Bool} {n3 : Nat}, (∀ k : Nat, k < 1440 → (ma k = true ↔ inS a.daily k)) → (∀ k : Nat, k < 1440 → (mb k = true ↔ inS b.daily k)) → T2 4 = ptr (nx + 1 + 1) 0 → T2 5 = ptr n2 0 → T2 6 = ptr (n2 + 1 + 1) 0 → T2 7 = ptr (n2 + 1 + 1 + 1 + 1) 0 → n2 + 1 + 1 + 1 + 1 < n3 →
        wpc (PCalls P) P (fun _ => False) nx (ref06_MeetC_j3 cl) (fin nx [RV.cA 4 8] fun r H' _ => (∃ r', r = r'.v ∧ MeetR a b r') ∧ H' = H) ⟨T2, upd (upd (upd (upd (upd (upd H nx (some a.cells)) (nx + 1) (some b.cells)) (nx + 1 + 1) (some [.bool false, .int .u64 0, .int .u64 0, .int .u64 0, .int .i64 0, .int .i64 0, lin tS [], .string noName])) n2 (some (Aut.mk false (bitsV .and .u64 a.zones b.zones) (bitsV .and .u64 a.lines b.lines) 0 0 0 [] hd).cells)) (n2 + 1 + 1) (some (Tms.mk a.fr a.to a.days ma).cells)) (n2 + 1 + 1 + 1 + 1) (some (Tms.mk b.fr b.to b.days mb).cells), n3⟩ := by
      intro T2 ma mb n3 hma hmb g4 g5 g6 g7 hn3
      refine rm_j3 hcl (kc := n2) (kt := n2 + 1 + 1) (ku := n2 + 1 + 1 + 1 + 1) (C := Aut.mk false (bitsV .and .u64 a.zones b.zones) (bitsV .and .u64 a.lines b.lines) 0 0 0 [] hd) (t := Tms.mk a.fr a.to a.days ma) (u := Tms.mk b.fr b.to b.days mb) hw rfl
        ⟨hwa.du, ga.f, by have := ga.f; have := ga.ft; have := ga.t; show a.fr ≤ 67108864; omega, by have := ga.f; have := ga.ft; show 0 ≤ a.to; omega, ga.t⟩ ⟨hwb.du, gb.f, by have := gb.f; have := gb.ft; have := gb.t; show b.fr ≤ 67108864; omega, by have := gb.f; have := gb.ft; show 0 ≤ b.to; omega, gb.t⟩
        (by simp [g4]) (by simp [g5]) (by simp [g6]) (by simp [g7]) (by simp [e4, e8, d6, d4, e10, e11, e12]; rfl) rfl (by simp [e1, e5]) (by simp [e9]) (by simp) ?_ (by show n2 + 1 + 1 < n3; omega) (by omega) (by omega) (by omega) (fun h => .inr ⟨hB, .inl ⟨?_, rfl⟩⟩) (fun h1 h2 r hr => .inr ⟨hB, ?_⟩)
      · simp [b4, b5, d7, p1, p2]
      · rcases h with h | h | h
        · left; rw [z0]; exact h
        · exact .inr (.inl h)
        · right; right; intro m hm
          have h3 := hm.1; have h4 := hm.2.1
          have h : min a.to b.to < max a.fr b.fr := h
          have h3 : max a.fr b.fr ≤ m := h3
          have h4 : m ≤ min a.to b.to := h4
          omega
      · refine RClosed_is (t := ⟨max a.fr b.fr, min a.to b.to, bitsV .and .u64 a.days b.days, mTo ma mb 1440⟩) (by rw [z0]; exact h1) h2 (both_S hwa.du hwb.du hma hmb) ?_
        rcases hr with hr | ⟨f, u, d, l, hr, rfl⟩
        · exact .inl hr
        · exact .inr ⟨f, u, d, l, hr, by rw [z0, ← hhd]; rfl⟩
    repeat' first
      | refine And.intro ?_ ?_
      | (refine tms ga hwa fun ma hma => ?_
         simp [f2, f3, f4, f5, b1, b2, b3, b4, b5, b6, b7, b8, d1, d2, d3, d4, d5, d6, d7, e1, e2, e3, e4, e10, e11, e12, Aut.ag])
      | (refine tms gb hwb fun mb hmb => ?_
         simp [f2, f3, f4, f5, b1, b2, b3, b4, b5, b6, b7, b8, d1, d2, d3, d4, d5, d6, d7, e1, e2, e3, e4, e10, e11, e12, Aut.ag]
         exact last hma hmb (by simp [f4]) (by simp [f5]) (by simp) (by simp) (by omega))
      | fail "stuck"
  have cfl : (a.holder ≠ noName ∧ b.holder ≠ noName ∧ a.holder ≠ b.holder) → MeetR a b noneA := fun h => .inr ⟨hB, .inl ⟨.inl (if_pos h), rfl⟩⟩
  have em1 : ∀ {x : ByteArray}, x = noName → x.toList = [] ∧ x.toList.isEmpty = true := fun {x} h => by
    have h1 : x.toList = [] := (noName_iff _).2 h
    exact ⟨h1, by rw [h1]; rfl⟩
  have em2 : ∀ {x : ByteArray}, ¬ x = noName → ¬ x.toList = [] ∧ x.toList.isEmpty = false := fun {x} h => by
    have h1 : ¬ x.toList = [] := fun e => h ((noName_iff _).1 e)
    exact ⟨h1, by simpa using h1⟩
  have sz : ∀ {x : Aut}, rgA x → x.holder.size ≤ 16 := fun {x} h => by
    rcases h.h with h | h
    · rw [h]; decide
    · simp only [nameV, Bool.and_eq_true, decide_eq_true_eq] at h; exact h.1.2
  have hsz : a.holder.size + b.holder.size ≤ 9223372036854775807 := by have := sz ga; have := sz gb; omega
  by_cases c1 : a.holder = noName
  · obtain ⟨g1, g2⟩ := em1 c1
    by_cases c3 : a.holder = b.holder
    · have c3' : (a.holder == b.holder) = true := by simp [c3]
      obtain ⟨g3, g4⟩ := em1 (c3.symm.trans c1)
      simp [b1, b2, b3, b4, b5, b6, b7, b8, d1, d2, d3, d4, d5, d6, d7, hn, hn2', g1, g2, g3, g4, c3', hsz, ref06_MeetC_j5]
      refine go (hd := a.holder) (fun h => h.1 c1) (by show a.holder = if b.holder = noName then a.holder else b.holder; rw [← c3, c1]; rfl) ?_ ?_ ?_ ?_ <;> simp
    · have c3' : (a.holder == b.holder) = false := by simp [c3]
      obtain ⟨g3, g4⟩ := em2 (x := b.holder) fun e => c3 (c1.trans e.symm)
      simp [b1, b2, b3, b4, b5, b6, b7, b8, d1, d2, d3, d4, d5, d6, d7, hn, hn2', g1, g2, g3, g4, c3', hsz, ref06_MeetC_j5]
      refine go (hd := a.holder ++ b.holder) (fun h => h.1 c1) (by show a.holder ++ b.holder = if b.holder = noName then a.holder else b.holder; rw [c1, no_append, if_neg fun e => c3 (c1.trans e.symm)]) ?_ ?_ ?_ ?_ <;> simp
  · obtain ⟨g1, g2⟩ := em2 c1
    by_cases c2 : b.holder = noName
    · obtain ⟨g3, g4⟩ := em1 c2
      have c3' : (a.holder == b.holder) = false := by simp [c2, c1]
      simp [b1, b2, b3, b4, b5, b6, b7, b8, d1, d2, d3, d4, d5, d6, d7, hn, hn2', g1, g2, g3, g4, c3', hsz, ref06_MeetC_j5]
      refine go (hd := a.holder ++ b.holder) (fun h => h.2.1 c2) (by show a.holder ++ b.holder = if b.holder = noName then a.holder else b.holder; rw [if_pos c2, c2, append_no]) ?_ ?_ ?_ ?_ <;> simp
    · obtain ⟨g3, g4⟩ := em2 c2
      by_cases c3 : a.holder = b.holder
      · have c3' : (a.holder == b.holder) = true := by simp [c3]
        simp [b1, b2, b3, b4, b5, b6, b7, b8, d1, d2, d3, d4, d5, d6, d7, hn, hn2', g1, g2, g3, g4, c3', hsz, ref06_MeetC_j5]
        refine go (hd := a.holder) (fun h => h.2.2 c3) (by show a.holder = if b.holder = noName then a.holder else b.holder; rw [if_neg c2, c3]) ?_ ?_ ?_ ?_ <;> simp
      · have c3' : (a.holder == b.holder) = false := by simp [c3]
        simp [b1, b2, b3, b4, b5, b6, b7, b8, d1, d2, d3, d4, d5, d6, d7, hn, hn2', g1, g2, g3, g4, c3', hnone]
        exact bad (cfl ⟨c1, c2, c3⟩) (by simp [b4, b5])
end Go.PE
namespace Go.PE
open Go
theorem RMeetOK.eq {P : Program} {f : Nat} (h : RMeetOK P f) {a b u : Aut} (ha : a.wf) (hb : b.wf) (hu : MeetR a b u) (H : Nat → Option (List Value)) (nx : Nat) :
    PCalls P f [a.v, b.v] H nx (fun _ => False) (fun r H' _ => r = u.v ∧ H' = H) :=
  (h a b ha hb H nx).mono fun p H' nx' ⟨⟨r', h1, h2⟩, h3⟩ => ⟨by rw [h1, h2.uniq hu], h3⟩
section
variable {P : Program} {g aw me rm sa ac tS : Nat} (haw : Aw08OK P aw g) (hme : AMeetOK P me g) (hrm : RMeetOK P rm) (hsa : SameAOK P sa) (hac : AConOK P ac g)
include haw hme hrm hsa hac
theorem am8_j1 {n0 ka kx ky kc kz : Nat} {a x y z : Aut} {c : Ctx} {s : PS} {R : Post} (ha : a.wf) (hx : Vw x) (hy : Vw y) (hz : z.wf) (hc : c.wf) (hcv : c.valid = true) (e3 : s.t 3 = ptr ka 0) (e7 : s.t 7 = ptr kx 0) (e8 : s.t 8 = ptr ky 0) (e10 : s.t 10 = ptr kc 0) (e11 : s.t 11 = ptr kz 0)
    (hka : s.H ka = some a.cells) (hkx : s.H kx = some x.cells) (hky : s.H ky = some y.cells) (hkc : s.H kc = some c.cells) (hkz : s.H kz = some z.cells)
    (hn : ka < s.nx ∧ kx < s.nx ∧ ky < s.nx ∧ kc < s.nx ∧ kz < s.nx) (hg : s.H g = some bitsRow) (hgn : g < s.nx) (h0 : n0 ≤ s.nx) (hR : ∀ H nx, R (.bool true) H nx) :
    wpc (PCalls P) P (fun _ => False) n0 (law08_AuthorityMeet_BC_j1 aw tS me rm sa ac) (fin n0 [RV.t 6] R) s := by
  obtain ⟨T, H, nx⟩ := s
  simp only at e3 e7 e8 e10 e11 hka hkx hky hkc hkz hn hg hgn h0
  obtain ⟨m1, m2, m3, m4, m5⟩ := hn
  obtain ⟨u, hu⟩ := MeetR.ex x y
  have vu := hu.vw hx.wf hy.wf
  obtain ⟨v, hv⟩ := MeetR.ex a x
  have vv := hv.vw ha hx.wf
  obtain ⟨w, hw⟩ := MeetR.ex x z
  have vw := hw.vw hx.wf hz
  have met : ∀ {a b u : Aut} {s : PS} {d : Option Nat} {K : PS → Prop}, a.wf → b.wf → MeetR a b u → s.H g = some bitsRow → g < s.nx → K ⟨(s.putO d u.v).t, s.H, s.nx⟩ → wmCall (PCalls P) me [a.v, b.v] d s K :=
    fun ha hb hm hg hgn hK => wmCall_of _ (fun n H2 hn hH => hme.eq ha hb hm (hH _ _ hg) (by omega)) hK
  have rmt : ∀ {a b u : Aut} {s : PS} {d : Option Nat} {K : PS → Prop}, a.wf → b.wf → MeetR a b u → K ⟨(s.putO d u.v).t, s.H, s.nx⟩ → wmCall (PCalls P) rm [a.v, b.v] d s K :=
    fun ha hb hm hK => wmCall_of _ (fun n H2 hn hH => hrm.eq ha hb hm H2 n) hK
  have sam : ∀ {a : Aut} {s : PS} {d : Option Nat} {K : PS → Prop}, Vw a → K ⟨(s.putO d (.bool true)).t, s.H, s.nx⟩ → wmCall (PCalls P) sa [a.v, a.v] d s K :=
    fun {a s d K} ha hK => wmCall_of _ (fun n H2 hn hH => by have := hsa a a ha.n ha.n H2 n; simpa using this) hK
  have con : ∀ {a : Aut} {s : PS} {d : Option Nat} {K : PS → Prop}, Vw a → s.H g = some bitsRow → g < s.nx → K ⟨(s.putO d (.bool (inA a c))).t, s.H, s.nx⟩ → wmCall (PCalls P) ac [a.v, c.v] d s K :=
    fun {a s d K} ha hg hgn hK => wmCall_of _ (fun n H2 hn hH => by have := hac a c ha.wf hc H2 n (hH _ _ hg) (by omega); rw [(okA_iff a).2 ha.1] at this; simpa using this) hK
  have hin : inA u c = (inA x c && inA y c) := by
    rw [Bool.eq_iff_iff, Bool.and_eq_true, inA_iff, inA_iff, inA_iff]
    exact hu.inP hx.1 hy.1 hx.wf hy.wf hcv
  simp [law08_AuthorityMeet_BC_j1, e7, e8, hkx, hky, Aut.ag]
  refine wCall_eq (Q := fun r => r = u.v) (hme.eq hx.wf hy.wf hu hg hgn) fun r n1 hr hn1 => ?_
  subst hr
  simp at hn1
  have q0 : n0 ≤ n1 := by omega
  have q1 : ¬ ka = n1 := by omega
  have q2 : ¬ kx = n1 := by omega
  have q3 : ¬ ky = n1 := by omega
  have q4 : ¬ kc = n1 := by omega
  have q5 : ¬ kz = n1 := by omega
  have q6 : ¬ g = n1 := by omega
  have hg2 : upd H n1 (some u.cells) g = some bitsRow := by simp [q6, hg]
  have hgn2 : g < n1 + 1 := by omega
  simp [e3, e7, e8, e10, e11, hka, hkx, hky, hkc, hkz, q0, q1, q2, q3, q4, q5, q6, Aut.ag, Ctx.ag]
  refine rmt hx.wf hy.wf hu ?_
  simp [e3, e7, e8, e10, e11, hka, hkx, hky, hkc, hkz, q0, q1, q2, q3, q4, q5, q6, Aut.ag, Ctx.ag]
  refine sam vu ?_
  simp [e3, e7, e8, e10, e11, hka, hkx, hky, hkc, hkz, q0, q1, q2, q3, q4, q5, q6, Aut.ag, Ctx.ag]
  refine con vu hg2 hgn2 ?_
  simp [e3, e7, e8, e10, e11, hka, hkx, hky, hkc, hkz, q0, q1, q2, q3, q4, q5, q6, Aut.ag, Ctx.ag]
  refine con hx hg2 hgn2 ?_
  rw [hin]
  have done : ∀ {s : PS} {d : Option Nat} {K : PS → Prop}, s.H = upd H n1 (some u.cells) → s.nx = n1 + 1 → K ⟨(s.putO d (.bool true)).t, s.H, s.nx⟩ → wmCall (PCalls P) aw [] d s K :=
    fun {s d K} h1 h2 hK => wmCall_of _ (fun n H2 hn hH => haw H2 n (hH _ _ (by rw [h1]; exact hg2)) (by rw [h2] at hn; omega)) hK
  cases hix : inA x c with
  | false =>
    simp [e3, e7, e8, e10, e11, hka, hkx, hky, hkc, hkz, q0, q1, q2, q3, q4, q5, q6, Aut.ag, Ctx.ag]
    refine met ha hx.wf hv hg2 hgn2 ?_
    simp [e3, e7, e8, e10, e11, hka, hkx, hky, hkc, hkz, q0, q1, q2, q3, q4, q5, q6, Aut.ag, Ctx.ag]
    refine rmt ha hx.wf hv ?_
    simp [e3, e7, e8, e10, e11, hka, hkx, hky, hkc, hkz, q0, q1, q2, q3, q4, q5, q6, Aut.ag, Ctx.ag]
    refine sam vv ?_
    simp [e3, e7, e8, e10, e11, hka, hkx, hky, hkc, hkz, q0, q1, q2, q3, q4, q5, q6, Aut.ag, Ctx.ag]
    refine met hx.wf hz hw hg2 hgn2 ?_
    simp [e3, e7, e8, e10, e11, hka, hkx, hky, hkc, hkz, q0, q1, q2, q3, q4, q5, q6, Aut.ag, Ctx.ag]
    refine rmt hx.wf hz hw ?_
    simp [e3, e7, e8, e10, e11, hka, hkx, hky, hkc, hkz, q0, q1, q2, q3, q4, q5, q6, Aut.ag, Ctx.ag]
    refine sam vw ?_
    simp
    refine done rfl rfl ?_
    simp
    intro n hn
    exact wF_of (hR _ _)
  | true =>
    simp [e3, e7, e8, e10, e11, hka, hkx, hky, hkc, hkz, q0, q1, q2, q3, q4, q5, q6, Aut.ag, Ctx.ag]
    refine con hy hg2 hgn2 ?_
    simp [e3, e7, e8, e10, e11, hka, hkx, hky, hkc, hkz, q0, q1, q2, q3, q4, q5, q6, Aut.ag, Ctx.ag]
    refine met ha hx.wf hv hg2 hgn2 ?_
    simp [e3, e7, e8, e10, e11, hka, hkx, hky, hkc, hkz, q0, q1, q2, q3, q4, q5, q6, Aut.ag, Ctx.ag]
    refine rmt ha hx.wf hv ?_
    simp [e3, e7, e8, e10, e11, hka, hkx, hky, hkc, hkz, q0, q1, q2, q3, q4, q5, q6, Aut.ag, Ctx.ag]
    refine sam vv ?_
    simp [e3, e7, e8, e10, e11, hka, hkx, hky, hkc, hkz, q0, q1, q2, q3, q4, q5, q6, Aut.ag, Ctx.ag]
    refine met hx.wf hz hw hg2 hgn2 ?_
    simp [e3, e7, e8, e10, e11, hka, hkx, hky, hkc, hkz, q0, q1, q2, q3, q4, q5, q6, Aut.ag, Ctx.ag]
    refine rmt hx.wf hz hw ?_
    simp [e3, e7, e8, e10, e11, hka, hkx, hky, hkc, hkz, q0, q1, q2, q3, q4, q5, q6, Aut.ag, Ctx.ag]
    refine sam vw ?_
    simp
    refine done rfl rfl ?_
    simp
    intro n hn
    exact wF_of (hR _ _)
end
end Go.PE
namespace Go.PE
open Go
set_option maxHeartbeats 4000000 in
theorem authorityMeet_ok {P : Program} {f g aw md tS cx ne sp me rm sa ac : Nat} (hc : compFnX P [3000000] f = some (73, law08_AuthorityMeet_BC aw md tS cx ne sp me rm sa ac, [.t 6])) (haw : Aw08OK P aw g) (hme : AMeetOK P me g) (hrm : RMeetOK P rm) (hsa : SameAOK P sa) (hac : AConOK P ac g) (hmd : MadeOK P md) (hcx : Draws P cx [] isCtx) (hne : NewOK P ne) (hsp : SpoiltOK P sp)
    (a : Aut) (l how : List Int) (ha : a.daily.length ≤ 60 → a.wf) (hl : l.length ≤ maxLen) (hh : how.length ≤ maxLen) (H : Nat → Option (List Value)) (nx : Nat) (hg : H g = some bitsRow) (hgn : g < nx) :
    PCalls P f [a.v, deep (l.map (.int .i64)), deep (how.map (.int .i64))] H nx (fun _ => False) (fun r H' _ => r = .bool true) := by
  refine PCalls_ofX hc (by simp) fun hw => ?_
  have hmx : (maxLen : Int) = 9223372036854775807 := rfl
  have g1 : ¬ g = nx := by omega
  by_cases h60 : 60 < a.daily.length
  · simp [law08_AuthorityMeet_BC, show (60 : Int) < a.daily.length by omega, h60]
    refine wCall_eq (Q := fun r => r = .bool true) (haw _ _ (by simp [g1, hg]) (by show g < nx + 1; omega)) fun r n hr hn => ?_
    subst hr
    simp
    exact wF_of rfl
  replace ha := ha (by omega)
  simp [law08_AuthorityMeet_BC, law08_AuthorityMeet_BC_j2, show ¬ (60 : Int) < a.daily.length by omega, h60]
  refine wCall_le (hmd l hl _ _) fun r H1 n1 hR hn1 hown => ?_
  obtain ⟨x, y0, nd, at1, rfl, hx, hy0, h4, h5, h6, rfl⟩ := hR
  have hxs : Vw x := hx.ok
  have hys : Vw y0 := hy0.ok
  simp at hn1
  simp at h4 h5
  have d1 : ¬ nx = nd := by omega
  have d2 : ¬ nx = n1 := by omega
  have d3 : ¬ nx = n1 + 1 := by omega
  have d4 : ¬ n1 = nd := by omega
  have d4' : ¬ nd = n1 := by omega
  have d5 : ¬ n1 + 1 = nd := by omega
  have d5' : ¬ nd = n1 + 1 := by omega
  have d6 : ¬ n1 = n1 + 1 := by omega
  have d7 : ¬ g = nd := by omega
  have d8 : ¬ g = n1 := by omega
  have d9 : ¬ g = n1 + 1 := by omega
  have d10 : ¬ n1 + 1 = n1 := by omega
  have p1 : nx ≤ n1 := by omega
  have p2 : nx ≤ n1 + 1 := by omega
  simp [p1, p2, d1, d2, d3, d4, d4', d5, d5', d6, d7, d8, d9, d10]
  refine wCall_drawL hcx (l := l) (at_ := at1) h6 hl (by simp [d4', d5']) (.inl (by omega)) fun v at2 n2 hv ha2 hn2 => ?_
  obtain ⟨w, rfl, hwv, hww⟩ := isCtx_ok hv
  simp at hn2
  have e1 : ¬ nx = n2 := by omega
  have e2 : ¬ n1 = n2 := by omega
  have e2' : ¬ n1 + 1 = n2 := by omega
  have e3 : ¬ n2 = nd := by omega
  have e4 : ¬ g = n2 := by omega
  have q1 : ¬ n2 + 1 = n1 := by omega
  have q3 : ¬ n1 = n2 + 1 := by omega
  have q3' : ¬ n1 + 1 = n2 + 1 := by omega
  have q4 : ¬ nx = n2 + 1 := by omega
  have q5 : ¬ g = n2 + 1 := by omega
  have q6 : ¬ n2 + 1 + 1 = n2 + 1 := by omega
  have q7 : ¬ n1 = n2 + 1 + 1 := by omega
  have q7' : ¬ n1 + 1 = n2 + 1 + 1 := by omega
  have q7'' : ¬ n1 = n2 + 2 := by omega
  have q8 : ¬ nx = n2 + 1 + 1 := by omega
  have q9 : ¬ g = n2 + 1 + 1 := by omega
  have q10 : ¬ n2 + 1 = n2 + 1 + 1 := by omega
  have q11 : ¬ n2 = n2 + 1 := by omega
  have q12 : ¬ n2 = n2 + 1 + 1 := by omega
  have q13 : ¬ n2 + 1 = nd := by omega
  have q14 : ¬ n2 + 1 + 1 = nd := by omega
  have p3 : nx ≤ n2 + 1 := by omega
  have p4 : nx ≤ n2 + 1 + 1 := by omega
  have p5 : nx ≤ n2 := by omega
  have nw : ∀ {s : PS} {d : Option Nat} {K : PS → Prop}, K ⟨(s.putO d (ptr s.nx 0)).t, upd s.H s.nx (some (dk how 0)), s.nx + 1⟩ → wCall (PCalls P) (fun _ => False) nx ne [deep (how.map (.int .i64))] d s K := by
    intro s d K hK
    refine wCall_le (hne how _ _) fun r H1 n1 hR hn1 _ => ?_
    obtain ⟨rfl, rfl, rfl⟩ := hR
    exact hK
  have spc : ∀ {s : PS} {d : Option Nat} {K : PS → Prop} {k : Nat}, s.H k = some (dk how 0) → nx ≤ k → (∀ (y : Aut) n at', y.wf → s.nx ≤ n → K ⟨(s.putO d y.v).t, upd s.H k (some (dk how at')), n⟩) → wCall (PCalls P) (fun _ => False) nx sp [y0.v, ptr k 0] d s K := by
    intro s d K k h1 h2 hK
    refine wCall_leT (hsp y0 hys.2 k how 0 (by omega) hh s.H s.nx h1) (fun j hj => by subst hj; exact .inl h2) (fun j row hj hr => ?_) fun p H' nx' hR hn => ?_
    · subst hj
      rw [h1] at hr
      obtain rfl := Option.some.inj hr
      exact dk_noLin how 0
    · obtain ⟨⟨y, rfl, hy⟩, at', ha', rfl⟩ := hR
      exact hK y nx' at' hy hn
  simp [p1, p2, p3, p4, p5, d1, d2, d3, d4, d4', d5, d5', d6, d7, d8, d9, d10, e1, e2, e2', e3, e4, q1, q3, q3', q4, q5, q6, q7, q7', q7'', q8, q9, q10, q11, q12, q13, q14, Aut.ag]
  repeat' first
    | refine And.intro ?_ ?_
    | (refine nw ?_
       simp [p1, p2, p3, p4, p5, d1, d2, d3, d4, d4', d5, d5', d6, d7, d8, d9, d10, e1, e2, e2', e3, e4, q1, q3, q3', q4, q5, q6, q7, q7', q7'', q8, q9, q10, q11, q12, q13, q14, Aut.ag])
    | (refine spc (by simp [q6, q10]) (by first | exact p3 | exact p4) fun y n at' hy hn => ?_
       simp at hn
       have r1 : ¬ n = n2 + 1 := by omega
       have r2 : ¬ n1 + 1 = n := by omega
       have r3 : ¬ n1 = n := by omega
       have r4 : ¬ nx = n := by omega
       have r5 : ¬ g = n := by omega
       have r6 : nx ≤ n := by omega
       have r7 : ¬ n2 = n := by omega
       simp [p1, p2, p3, p4, p5, d1, d2, d3, d4, d4', d5, d5', d6, d7, d8, d9, d10, e1, e2, e2', e3, e4, q1, q3, q3', q4, q5, q6, q7, q7', q7'', q8, q9, q10, q11, q12, q13, q14, r1, r2, r3, r4, r5, r6, r7, Aut.ag])
    | fail "stuck"
  all_goals
    refine am8_j1 haw hme hrm hsa hac (ka := nx) (kx := n1) (ky := n1 + 1) (kc := n2) (a := a) (x := x) (y := y0) (z := y) (c := w) ha hxs hys hy hww hwv (by simp) (by simp) (by simp) (by simp) rfl ?_ ?_ ?_ ?_ ?_ ?_ ?_ ?_ ?_ (fun _ _ => rfl)
    · simp [d1, d2, d3, e1, q4, q8, r4]
    · simp [d4, d6, e2, q3, q7, q7'', r3]
    · simp [d5, d10, e2', q3', q7', q7'', r2, e2, q3]
    · simp [q11, q12, r7]
    · simp [q6, q10, r1]
    · refine ⟨?_, ?_, ?_, ?_, ?_⟩ <;> simp <;> omega
    · simp [g1, d7, d8, d9, e4, q5, q9, r5, hg]
    · simp; omega
    · simp; omega
end Go.PE
