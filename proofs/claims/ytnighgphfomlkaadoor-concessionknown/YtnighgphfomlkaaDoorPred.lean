/- Predicates and contexts as plain data; what predicate.Valid and its kin compute. predicate.Valid, and the references' Valid. The references' Valid: it is the same. contexts: valid ones; rides what holds for a ride: the methods the references' Holds; All The deck: predicates. The deck: lists of predicates; layer 7's sanity check. Predicates and contexts among the arguments. -/
import Derived.Test.YtnighgphfomlkaaDoorCode
import Derived.Test.YtnighgphfomlkaaDoorEngC
set_option linter.all false
namespace Go.PE
open Go
structure Pred where
  kind : Int
  mask : Int
  fr : Int
  to : Int
  name : ByteArray
  num : Int
def Pred.cells (p : Pred) : List Value := [.int .i64 p.kind, .int .u64 p.mask, .int .i64 p.fr, .int .i64 p.to, .string p.name, .int .i64 p.num]
def Pred.v (p : Pred) : Value := ag p.cells
structure Ctx where
  zone : Int
  line : Int
  minute : Int
  holder : ByteArray
def Ctx.cells (c : Ctx) : List Value := [.int .i64 c.zone, .int .i64 c.line, .int .i64 c.minute, .string c.holder]
def Ctx.v (c : Ctx) : Value := ag c.cells
/-- the variable predicate.bits -/
def bitsRow : List Value := [.int .i64 0, .int .i64 64, .int .i64 32, .int .i64 7, .int .i64 0, .int .i64 0, .int .i64 0, .int .i64 0]

def maskV (m bits : Int) : Bool := m != 0 && (bits == 64 || (m.fdiv (2 ^ min bits.toNat 64) == 0))
def MaskOK (P : Program) (f : Nat) : Prop := ∀ (m bits : Int), 0 ≤ bits → ∀ (H : Nat → Option (List Value)) (nx : Nat),
    PCalls P f [.int .u64 m, .int .i64 bits] H nx (fun _ => False) (fun p H' _ => p = .bool (maskV m bits) ∧ H' = H)
theorem mask_ok {P : Program} {f : Nat} (hc : compFn P f = some (17, predicate_maskC, [.t 4])) : MaskOK P f := by
  intro m bits h0 H nx
  refine PCalls_of hc (by simp) fun hw => ?_
  by_cases hm : m = 0
  · simp [predicate_maskC, hm]
    refine wF_of ?_; simp [maskV]
  · have hm1 : (m != 0) = true := by simp [hm]
    by_cases hb : bits = 64
    · simp [predicate_maskC, hm1, hb]
      refine wF_of ?_; simp [maskV, hm]
    · have hb1 : (bits == 64) = false := by simp [hb]
      simp [predicate_maskC, hm1, hb1, h0]
      refine wF_of ?_; simp [maskV, hm1, hb1, IntKind.bits]

def letter (u : UInt8) : Bool := decide (97 ≤ u.toNat) && decide (u.toNat ≤ 122)
/-- is it a name? -/
def nameV (b : ByteArray) : Bool := decide (1 ≤ b.size) && decide (b.size ≤ 16) && (List.range b.size).all fun i => letter (b[i]?.getD 0)
def NameOK (P : Program) (f : Nat) : Prop := ∀ (b : ByteArray) (_ : (b.size : Int) ≤ 9223372036854775807) (H : Nat → Option (List Value)) (nx : Nat),
    PCalls P f [.string b] H nx (fun _ => False) (fun p H' _ => p = .bool (nameV b) ∧ H' = H)
theorem name_bad {b : ByteArray} {i : Nat} (hlt : i < b.size) (hn : ¬ (97 ≤ b[i].toNat ∧ b[i].toNat ≤ 122)) : nameV b = false := by
  have hu : b[i]? = some b[i] := by simp [hlt]
  have : ¬ letter b[i] = true := by simpa [letter] using hn
  rw [Bool.eq_false_iff]
  intro hv
  simp only [nameV, Bool.and_eq_true, List.all_eq_true, List.mem_range] at hv
  have := hv.2 i hlt
  rw [hu] at this
  contradiction
theorem name_good {b : ByteArray} (h1 : 1 ≤ b.size) (h2 : b.size ≤ 16) (hall : ∀ j, j < b.size → letter (b[j]?.getD 0) = true) : nameV b = true := by
  simp only [nameV, Bool.and_eq_true, List.all_eq_true, List.mem_range, decide_eq_true_eq]
  exact ⟨⟨by omega, by omega⟩, fun j hj => hall j (by omega)⟩
theorem name_ok {P : Program} {f : Nat} (hc : compFn P f = some (28, predicate_nameC, [.t 2])) : NameOK P f := by
  intro b hb H nx
  refine PCalls_of hc (by simp) fun hw => ?_
  by_cases h1 : (b.size : Int) < 1
  · simp [predicate_nameC, h1]
    refine wF_of ⟨?_, rfl⟩
    have : ¬ 1 ≤ b.size := by omega
    simp [nameV, this]
  · by_cases h2 : (b.size : Int) > 16
    · simp [predicate_nameC, h1, h2]
      refine wF_of ⟨?_, rfl⟩
      have : ¬ b.size ≤ 16 := by omega
      simp [nameV, this]
    · simp [predicate_nameC, h1, h2]
      refine wpc_loop _ _ _ _ _ _ (fun s => ∃ i : Int, 0 ≤ i ∧ i ≤ b.size ∧ s.t 0 = .string b ∧ s.t 13 = .int .i64 b.size ∧ s.t 14 = .int .i64 i ∧ s.H = H ∧ ∀ j, j < i.toNat → letter (b[j]?.getD 0) = true)
        (fun s => match s.t 14 with | .int _ i => (b.size - i).toNat | _ => 0) _ ⟨0, by omega, by omega, by simp, by simp, by simp, rfl, fun j hj => by simp at hj⟩ ?_
      rintro ⟨t, H', nx'⟩ ⟨i, hi0, hi1, e0, e13, e14, rfl, hall⟩
      simp only at e0 e13 e14
      simp [e0, e13, e14]
      refine wB_of (fun h => ?_) (fun h => ?_)
      · simp at h
        have hlt : i.toNat < b.size := by omega
        have hu : b[i.toNat]? = some b[i.toNat] := by simp [hlt]
        by_cases c1 : ((b[i.toNat].toNat : Int) < 97)
        · simp [hi0, hlt, c1, e0, e13, e14]
          refine wF_of ⟨?_, rfl⟩
          rw [name_bad hlt (by omega)]; rfl
        · by_cases c2 : ((b[i.toNat].toNat : Int) > 122)
          · simp [hi0, hlt, c1, c2, e0, e13, e14]
            refine wF_of ⟨?_, rfl⟩
            rw [name_bad hlt (by omega)]; rfl
          · simp [hi0, hlt, c1, c2, e0, e13, e14]
            rw [w64 (x := i + 1) (by omega) (by omega)]
            refine kLoop_nrm _ _ _ _ (Sub_refl _ _) ⟨i + 1, by omega, by omega, by simp [e0], by simp [e13], by simp, rfl, fun j hj => ?_⟩ (by simp; omega)
            by_cases hj' : j < i.toNat
            · exact hall j hj'
            · obtain rfl : j = i.toNat := by omega
              rw [hu]
              simp [letter]; omega
      · simp at h
        refine wF_of ⟨?_, rfl⟩
        obtain rfl : i = b.size := by omega
        rw [name_good (by omega) (by omega) (fun j hj => hall j (by omega))]; rfl
/-- the references' -/
theorem rname_ok {P : Program} {f : Nat} (hc : compFn P f = some (28, ref01_NameC, [.t 2])) : NameOK P f := by
  intro b hb H nx
  refine PCalls_of hc (by simp) fun hw => ?_
  by_cases h1 : (b.size : Int) < 1
  · simp [ref01_NameC, h1]
    refine wF_of ⟨?_, rfl⟩
    have : ¬ 1 ≤ b.size := by omega
    simp [nameV, this]
  · by_cases h2 : (b.size : Int) > 16
    · simp [ref01_NameC, h1, h2]
      refine wF_of ⟨?_, rfl⟩
      have : ¬ b.size ≤ 16 := by omega
      simp [nameV, this]
    · simp [ref01_NameC, h1, h2]
      refine wpc_loop _ _ _ _ _ _ (fun s => ∃ i : Int, 0 ≤ i ∧ i ≤ b.size ∧ s.t 0 = .string b ∧ s.t 3 = .int .i64 i ∧ s.H = H ∧ ∀ j, j < i.toNat → letter (b[j]?.getD 0) = true)
        (fun s => match s.t 3 with | .int _ i => (b.size - i).toNat | _ => 0) _ ⟨0, by omega, by omega, by simp, by simp, rfl, fun j hj => by simp at hj⟩ ?_
      rintro ⟨t, H', nx'⟩ ⟨i, hi0, hi1, e0, e14, rfl, hall⟩
      simp only at e0 e14
      simp [e0, e14]
      refine wB_of (fun h => ?_) (fun h => ?_)
      · simp at h
        have hlt : i.toNat < b.size := by omega
        have hu : b[i.toNat]? = some b[i.toNat] := by simp [hlt]
        by_cases c1 : ((b[i.toNat].toNat : Int) < 97)
        · simp [hi0, hlt, c1, e0, e14]
          refine wF_of ⟨?_, rfl⟩
          rw [name_bad hlt (by omega)]; rfl
        · by_cases c2 : ((b[i.toNat].toNat : Int) > 122)
          · simp [hi0, hlt, c1, c2, e0, e14]
            refine wF_of ⟨?_, rfl⟩
            rw [name_bad hlt (by omega)]; rfl
          · simp [hi0, hlt, c1, c2, e0, e14]
            rw [w64 (x := i + 1) (by omega) (by omega)]
            refine kLoop_nrm _ _ _ _ (Sub_refl _ _) ⟨i + 1, by omega, by omega, by simp [e0], by simp, rfl, fun j hj => ?_⟩ (by simp; omega)
            by_cases hj' : j < i.toNat
            · exact hall j hj'
            · obtain rfl : j = i.toNat := by omega
              rw [hu]
              simp [letter]; omega
      · simp at h
        refine wF_of ⟨?_, rfl⟩
        obtain rfl : i = b.size := by omega
        rw [name_good (by omega) (by omega) (fun j hj => hall j (by omega))]; rfl
end Go.PE
namespace Go.PE
open Go
def Pred.valid (p : Pred) : Bool :=
  if p.kind = 1 then maskV p.mask 64 && (p.fr == 0 && (p.to == 0 && (p.name == ⟨#[]⟩ && p.num == 0)))
  else if p.kind = 2 then maskV p.mask 32 && (p.fr == 0 && (p.to == 0 && (p.name == ⟨#[]⟩ && p.num == 0)))
  else if p.kind = 3 then maskV p.mask 7 && (p.fr == 0 && (p.to == 0 && (p.name == ⟨#[]⟩ && p.num == 0)))
  else if p.kind = 4 then (decide (0 ≤ p.fr) && decide (p.fr ≤ p.to) && decide (p.to ≤ 67108864)) && (p.mask == 0 && (p.name == ⟨#[]⟩ && p.num == 0))
  else if p.kind = 5 then (decide (0 ≤ p.fr) && decide (p.fr < 1440) && decide (0 ≤ p.to) && decide (p.to < 1440)) && (p.mask == 0 && (p.name == ⟨#[]⟩ && p.num == 0))
  else if p.kind = 6 then nameV p.name && (p.mask == 0 && (p.fr == 0 && (p.to == 0 && p.num == 0)))
  else if p.kind = 7 then (decide (0 ≤ p.num) && decide (p.num ≤ 1000000)) && (p.mask == 0 && (p.fr == 0 && (p.to == 0 && p.name == ⟨#[]⟩)))
  else false
def PValidOK (P : Program) (f g : Nat) : Prop := ∀ (p : Pred) (_ : (p.name.size : Int) ≤ 9223372036854775807) (H : Nat → Option (List Value)) (nx : Nat), H g = some bitsRow → g < nx →
    PCalls P f [p.v] H nx (fun _ => False) (fun r H' _ => r = .bool p.valid ∧ H' = H)
set_option maxHeartbeats 1000000 in
theorem pvalid_ok {P : Program} {f g m n : Nat} (hc : compFn P f = some (118, predicate_ValidC g m n, [.t 2])) (hm : MaskOK P m) (hn : NameOK P n) : PValidOK P f g := by
  intro p hs H nx hg hgn
  have hg1 : ¬ g = nx := by omega
  have hg2 : ¬ g = nx + 1 := by omega
  refine PCalls_of hc (by simp) fun hw => ?_
  obtain ⟨kind, mask, fr, to, name, num⟩ := p
  by_cases h1 : kind = 1
  · subst h1
    simp [predicate_ValidC, Pred.v, Pred.cells, hg, hg1, hg2, bitsRow]
    refine wqCall_of (hm mask 64 (by omega) _ _) rfl (fun _ _ _ h => h.1) ?_
    cases hb : maskV mask 64
    · simp [hb, hg, hg1, hg2, bitsRow]
      exact wF_own hw (by simp) (by simp [Pred.valid, hb])
    · simp [hb, hg, hg1, hg2, bitsRow]
      exact wF_own hw (by simp) (by simp [Pred.valid, hb])
  by_cases h2 : kind = 2
  · subst h2
    simp [predicate_ValidC, Pred.v, Pred.cells, hg, hg1, hg2, bitsRow]
    refine wqCall_of (hm mask 32 (by omega) _ _) rfl (fun _ _ _ h => h.1) ?_
    cases hb : maskV mask 32
    · simp [hb, hg, hg1, hg2, bitsRow]
      exact wF_own hw (by simp) (by simp [Pred.valid, hb])
    · simp [hb, hg, hg1, hg2, bitsRow]
      exact wF_own hw (by simp) (by simp [Pred.valid, hb])
  by_cases h3 : kind = 3
  · subst h3
    simp [predicate_ValidC, Pred.v, Pred.cells, hg, hg1, hg2, bitsRow]
    refine wqCall_of (hm mask 7 (by omega) _ _) rfl (fun _ _ _ h => h.1) ?_
    cases hb : maskV mask 7
    · simp [hb, hg, hg1, hg2, bitsRow]
      exact wF_own hw (by simp) (by simp [Pred.valid, hb])
    · simp [hb, hg, hg1, hg2, bitsRow]
      exact wF_own hw (by simp) (by simp [Pred.valid, hb])
  by_cases h4 : kind = 4
  · subst h4
    simp [predicate_ValidC, Pred.v, Pred.cells]
    by_cases c1 : 0 ≤ fr
    · by_cases c2 : fr ≤ to
      · by_cases c3 : to ≤ 67108864
        · simp [c1, c2, c3]
          exact wF_own hw (by simp) (by simp [Pred.valid, c1, c2, c3])
        · simp [c1, c2, c3]
          exact wF_own hw (by simp) (by simp [Pred.valid, c1, c2, c3])
      · simp [c1, c2]
        exact wF_own hw (by simp) (by simp [Pred.valid, c1, c2])
    · simp [c1]
      exact wF_own hw (by simp) (by simp [Pred.valid, c1])
  by_cases h5 : kind = 5
  · subst h5
    simp [predicate_ValidC, Pred.v, Pred.cells]
    by_cases c1 : 0 ≤ fr
    · by_cases c2 : fr < 1440
      · by_cases c3 : 0 ≤ to
        · by_cases c4 : to < 1440
          · simp [c1, c2, c3, c4]
            exact wF_own hw (by simp) (by simp [Pred.valid, c1, c2, c3, c4])
          · simp [c1, c2, c3, c4]
            exact wF_own hw (by simp) (by simp [Pred.valid, c1, c2, c3, c4])
        · simp [c1, c2, c3]
          exact wF_own hw (by simp) (by simp [Pred.valid, c1, c2, c3])
      · simp [c1, c2]
        exact wF_own hw (by simp) (by simp [Pred.valid, c1, c2])
    · simp [c1]
      exact wF_own hw (by simp) (by simp [Pred.valid, c1])
  by_cases h6 : kind = 6
  · subst h6
    simp [predicate_ValidC, Pred.v, Pred.cells]
    refine wCall_of (hn name hs _ _) fun r H' nx' ⟨hr, hH⟩ => ?_
    subst hr; subst hH
    cases hb : nameV name
    · simp [hb]
      exact wF_own hw (by simp) (by simp [Pred.valid, hb])
    · simp [hb]
      exact wF_own hw (by simp) (by simp [Pred.valid, hb])
  by_cases h7 : kind = 7
  · subst h7
    simp [predicate_ValidC, Pred.v, Pred.cells]
    by_cases c1 : 0 ≤ num
    · by_cases c2 : num ≤ 1000000
      · simp [c1, c2]
        exact wF_own hw (by simp) (by simp [Pred.valid, c1, c2])
      · simp [c1, c2]
        exact wF_own hw (by simp) (by simp [Pred.valid, c1, c2])
    · simp [c1]
      exact wF_own hw (by simp) (by simp [Pred.valid, c1])
  · have g1 : (kind == 1) = false := by simp [h1]
    have g2 : (kind == 2) = false := by simp [h2]
    have g3 : (kind == 3) = false := by simp [h3]
    have g4 : (kind == 4) = false := by simp [h4]
    have g5 : (kind == 5) = false := by simp [h5]
    have g6 : (kind == 6) = false := by simp [h6]
    have g7 : (kind == 7) = false := by simp [h7]
    simp [predicate_ValidC, Pred.v, Pred.cells, g1, g2, g3, g4, g5, g6, g7]
    exact wF_own hw (by simp) (by simp [Pred.valid, h1, h2, h3, h4, h5, h6, h7])
end Go.PE
namespace Go.PE
open Go
theorem maskV_lt {m : Int} {n : Nat} (h0 : 0 ≤ m) (hn : n < 64) : maskV m n = ((m != 0) && decide (m < 2 ^ n)) := by
  have hne : ((n : Int) == 64) = false := by simp; omega
  unfold maskV
  rw [hne]
  congr 1
  have hmin : min (n : Int).toNat 64 = n := by simp; omega
  rw [hmin]
  simp only [Bool.false_or]
  have hp : (0 : Int) < 2 ^ n := Int.pow_pos (by omega)
  rw [Int.fdiv_eq_ediv_of_nonneg _ (by omega)]
  by_cases h : m < 2 ^ n
  · simp [h, Int.ediv_eq_zero_of_lt h0 h]
  · simp only [h, decide_false, beq_eq_false_iff_ne, ne_eq]
    intro he
    have := Int.lt_ediv_add_one_mul_self m hp
    rw [he] at this
    omega
theorem maskV_64 (m : Int) : maskV m 64 = (m != 0) := by simp [maskV]
def RValidOK (P : Program) (f : Nat) : Prop := ∀ (p : Pred) (_ : (p.name.size : Int) ≤ 9223372036854775807) (_ : 0 ≤ p.mask) (H : Nat → Option (List Value)) (nx : Nat),
    PCalls P f [p.v] H nx (fun _ => False) (fun r H' _ => r = .bool p.valid ∧ H' = H)
theorem rvalid_ok {P : Program} {f n : Nat} (hc : compFn P f = some (120, ref06_ValidC n, [.t 2])) (hn : NameOK P n) : RValidOK P f := by
  intro p hs hm H nx
  refine PCalls_of hc (by simp) fun hw => ?_
  obtain ⟨kind, mask, fr, to, name, num⟩ := p
  simp only at hm hs
  by_cases h1 : kind = 1
  · subst h1
    by_cases hb : mask = 0
    · simp [ref06_ValidC, Pred.v, Pred.cells, hb]
      exact wF_own hw (by simp) (by simp [Pred.valid, maskV_64, hb])
    · have hb1 : (mask != 0) = true := by simp [hb]
      simp [ref06_ValidC, Pred.v, Pred.cells, hb1]
      exact wF_own hw (by simp) (by simp [Pred.valid, maskV_64, hb1])
  have e32 : (2 : Int) ^ 32 = 4294967296 := by decide
  have e7 : (2 : Int) ^ 7 = 128 := by decide
  by_cases h2 : kind = 2
  · subst h2
    have hv := maskV_lt (m := mask) (n := 32) hm (by omega)
    simp only [e32] at hv
    by_cases hb : mask = 0
    · simp [ref06_ValidC, Pred.v, Pred.cells, hb]
      exact wF_own hw (by simp) (by subst hb; simp [Pred.valid]; intro h; simp [maskV] at h)
    · have hb1 : (mask != 0) = true := by simp [hb]
      by_cases hc2 : mask < 4294967296
      · simp [ref06_ValidC, Pred.v, Pred.cells, hb1, hc2]
        exact wF_own hw (by simp) (by simp [Pred.valid, show maskV mask 32 = true by rw [show (32 : Int) = ((32 : Nat) : Int) from rfl, hv]; simp [hb1, hc2]])
      · simp [ref06_ValidC, Pred.v, Pred.cells, hb1, hc2]
        exact wF_own hw (by simp) (by simp [Pred.valid, show maskV mask 32 = false by rw [show (32 : Int) = ((32 : Nat) : Int) from rfl, hv]; simp [hc2]])
  by_cases h3 : kind = 3
  · subst h3
    have hv := maskV_lt (m := mask) (n := 7) hm (by omega)
    simp only [e7] at hv
    by_cases hb : mask = 0
    · simp [ref06_ValidC, Pred.v, Pred.cells, hb]
      exact wF_own hw (by simp) (by subst hb; simp [Pred.valid]; intro h; simp [maskV] at h)
    · have hb1 : (mask != 0) = true := by simp [hb]
      by_cases hc2 : mask < 128
      · simp [ref06_ValidC, Pred.v, Pred.cells, hb1, hc2]
        exact wF_own hw (by simp) (by simp [Pred.valid, show maskV mask 7 = true by rw [show (7 : Int) = ((7 : Nat) : Int) from rfl, hv]; simp [hb1, hc2]])
      · simp [ref06_ValidC, Pred.v, Pred.cells, hb1, hc2]
        exact wF_own hw (by simp) (by simp [Pred.valid, show maskV mask 7 = false by rw [show (7 : Int) = ((7 : Nat) : Int) from rfl, hv]; simp [hc2]])
  by_cases h4 : kind = 4
  · subst h4
    by_cases c1 : 0 ≤ fr
    · by_cases c2 : fr ≤ to
      · by_cases c3 : to ≤ 67108864
        · simp [ref06_ValidC, Pred.v, Pred.cells, c1, c2, c3]
          exact wF_own hw (by simp) (by simp [Pred.valid, c1, c2, c3])
        · simp [ref06_ValidC, Pred.v, Pred.cells, c1, c2, c3]
          exact wF_own hw (by simp) (by simp [Pred.valid, c1, c2, c3])
      · simp [ref06_ValidC, Pred.v, Pred.cells, c1, c2]
        exact wF_own hw (by simp) (by simp [Pred.valid, c1, c2])
    · simp [ref06_ValidC, Pred.v, Pred.cells, c1]
      exact wF_own hw (by simp) (by simp [Pred.valid, c1])
  by_cases h5 : kind = 5
  · subst h5
    by_cases c1 : 0 ≤ fr
    · by_cases c2 : fr < 1440
      · by_cases c3 : 0 ≤ to
        · by_cases c4 : to < 1440
          · simp [ref06_ValidC, Pred.v, Pred.cells, c1, c2, c3, c4]
            exact wF_own hw (by simp) (by simp [Pred.valid, c1, c2, c3, c4])
          · simp [ref06_ValidC, Pred.v, Pred.cells, c1, c2, c3, c4]
            exact wF_own hw (by simp) (by simp [Pred.valid, c1, c2, c3, c4])
        · simp [ref06_ValidC, Pred.v, Pred.cells, c1, c2, c3]
          exact wF_own hw (by simp) (by simp [Pred.valid, c1, c2, c3])
      · simp [ref06_ValidC, Pred.v, Pred.cells, c1, c2]
        exact wF_own hw (by simp) (by simp [Pred.valid, c1, c2])
    · simp [ref06_ValidC, Pred.v, Pred.cells, c1]
      exact wF_own hw (by simp) (by simp [Pred.valid, c1])
  by_cases h6 : kind = 6
  · subst h6
    simp [ref06_ValidC, Pred.v, Pred.cells]
    refine ⟨?_, ?_, ?_⟩ <;>
    · refine wCall_of (hn name hs _ _) fun r H' nx' ⟨hr, hH⟩ => ?_
      subst hr; subst hH
      cases hb : nameV name
      · simp [hb]
        exact wF_own hw (by simp) (by simp [Pred.valid, hb])
      · simp [hb]
        exact wF_own hw (by simp) (by simp [Pred.valid, hb])
  by_cases h7 : kind = 7
  · subst h7
    by_cases c1 : 0 ≤ num
    · by_cases c2 : num ≤ 1000000
      · simp [ref06_ValidC, Pred.v, Pred.cells, c1, c2]
        exact wF_own hw (by simp) (by simp [Pred.valid, c1, c2])
      · simp [ref06_ValidC, Pred.v, Pred.cells, c1, c2]
        exact wF_own hw (by simp) (by simp [Pred.valid, c1, c2])
    · simp [ref06_ValidC, Pred.v, Pred.cells, c1]
      exact wF_own hw (by simp) (by simp [Pred.valid, c1])
  · have g1 : (kind == 1) = false := by simp [h1]
    have g2 : (kind == 2) = false := by simp [h2]
    have g3 : (kind == 3) = false := by simp [h3]
    have g4 : (kind == 4) = false := by simp [h4]
    have g5 : (kind == 5) = false := by simp [h5]
    have g6 : (kind == 6) = false := by simp [h6]
    have g7 : (kind == 7) = false := by simp [h7]
    simp [ref06_ValidC, Pred.v, Pred.cells, g1, g2, g3, g4, g5, g6, g7]
    exact wF_own hw (by simp) (by simp [Pred.valid, h1, h2, h3, h4, h5, h6, h7])
end Go.PE
namespace Go.PE
open Go
def Ctx.valid (c : Ctx) : Bool := decide (0 ≤ c.zone) && decide (c.zone ≤ 63) && decide (0 ≤ c.line) && decide (c.line ≤ 31) && decide (0 ≤ c.minute) && decide (c.minute ≤ 67108864) && nameV c.holder
def CValidOK (P : Program) (f g : Nat) : Prop := ∀ (c : Ctx) (_ : (c.holder.size : Int) ≤ 9223372036854775807) (H : Nat → Option (List Value)) (nx : Nat), H g = some bitsRow → g < nx →
    PCalls P f [c.v] H nx (fun _ => False) (fun r H' _ => r = .bool c.valid ∧ H' = H)
theorem cvalid_ok {P : Program} {f g m : Nat} (hc : compFn P f = some (37, holds_ValidC m, [.t 2])) (hm : PValidOK P m g) : CValidOK P f g := by
  intro c hs H nx hg hgn
  have hg1 : ¬ g = nx := by omega
  refine PCalls_of hc (by simp) fun hw => ?_
  obtain ⟨zone, line, minute, holder⟩ := c
  by_cases c1 : 0 ≤ zone
  rotate_left
  · simp [holds_ValidC, Ctx.v, Ctx.cells, c1]
    exact wF_own hw (by simp) (by simp [Ctx.valid, c1])
  by_cases c2 : zone ≤ 63
  rotate_left
  · simp [holds_ValidC, Ctx.v, Ctx.cells, c1, c2]
    exact wF_own hw (by simp) (by simp [Ctx.valid, c1, c2])
  by_cases c3 : 0 ≤ line
  rotate_left
  · simp [holds_ValidC, Ctx.v, Ctx.cells, c1, c2, c3]
    exact wF_own hw (by simp) (by simp [Ctx.valid, c1, c2, c3])
  by_cases c4 : line ≤ 31
  rotate_left
  · simp [holds_ValidC, Ctx.v, Ctx.cells, c1, c2, c3, c4]
    exact wF_own hw (by simp) (by simp [Ctx.valid, c1, c2, c3, c4])
  by_cases c5 : 0 ≤ minute
  rotate_left
  · simp [holds_ValidC, Ctx.v, Ctx.cells, c1, c2, c3, c4, c5]
    exact wF_own hw (by simp) (by simp [Ctx.valid, c1, c2, c3, c4, c5])
  by_cases c6 : minute ≤ 67108864
  rotate_left
  · simp [holds_ValidC, Ctx.v, Ctx.cells, c1, c2, c3, c4, c5, c6]
    exact wF_own hw (by simp) (by simp [Ctx.valid, c1, c2, c3, c4, c5, c6])
  simp [holds_ValidC, Ctx.v, Ctx.cells, c1, c2, c3, c4, c5, c6]
  have hpv := fun (H : Nat → Option (List Value)) (nx : Nat) => hm ⟨6, 0, 0, 0, holder, 0⟩ hs H nx
  have hv : (⟨6, 0, 0, 0, holder, 0⟩ : Pred).valid = nameV holder := by simp [Pred.valid]
  refine wCall_of (hpv _ _ (by simp [hg, hg1]) (by simp; omega)) fun r H' nx' ⟨hr, hH⟩ => ?_
  subst hr; subst hH
  rw [hv]
  cases hb : nameV holder
  · simp [hb]
    exact wF_own hw (by simp) (by simp [Ctx.valid, c1, c2, c3, c4, c5, c6, hb])
  · simp [hb]
    exact wF_own hw (by simp) (by simp [Ctx.valid, c1, c2, c3, c4, c5, c6, hb])
def RCValidOK (P : Program) (f : Nat) : Prop := ∀ (c : Ctx) (_ : (c.holder.size : Int) ≤ 9223372036854775807) (H : Nat → Option (List Value)) (nx : Nat),
    PCalls P f [c.v] H nx (fun _ => False) (fun r H' _ => r = .bool c.valid ∧ H' = H)
theorem rcvalid_ok {P : Program} {f n : Nat} (hc : compFn P f = some (36, ref06_ContextOkC n, [.t 2])) (hn : NameOK P n) : RCValidOK P f := by
  intro c hs H nx
  refine PCalls_of hc (by simp) fun hw => ?_
  obtain ⟨zone, line, minute, holder⟩ := c
  by_cases c1 : 0 ≤ zone
  rotate_left
  · simp [ref06_ContextOkC, Ctx.v, Ctx.cells, c1]
    exact wF_own hw (by simp) (by simp [Ctx.valid, c1])
  by_cases c2 : zone ≤ 63
  rotate_left
  · simp [ref06_ContextOkC, Ctx.v, Ctx.cells, c1, c2]
    exact wF_own hw (by simp) (by simp [Ctx.valid, c1, c2])
  by_cases c3 : 0 ≤ line
  rotate_left
  · simp [ref06_ContextOkC, Ctx.v, Ctx.cells, c1, c2, c3]
    exact wF_own hw (by simp) (by simp [Ctx.valid, c1, c2, c3])
  by_cases c4 : line ≤ 31
  rotate_left
  · simp [ref06_ContextOkC, Ctx.v, Ctx.cells, c1, c2, c3, c4]
    exact wF_own hw (by simp) (by simp [Ctx.valid, c1, c2, c3, c4])
  by_cases c5 : 0 ≤ minute
  rotate_left
  · simp [ref06_ContextOkC, Ctx.v, Ctx.cells, c1, c2, c3, c4, c5]
    exact wF_own hw (by simp) (by simp [Ctx.valid, c1, c2, c3, c4, c5])
  by_cases c6 : minute ≤ 67108864
  rotate_left
  · simp [ref06_ContextOkC, Ctx.v, Ctx.cells, c1, c2, c3, c4, c5, c6]
    exact wF_own hw (by simp) (by simp [Ctx.valid, c1, c2, c3, c4, c5, c6])
  simp [ref06_ContextOkC, Ctx.v, Ctx.cells, c1, c2, c3, c4, c5, c6]
  refine wCall_of (hn holder hs _ _) fun r H' nx' ⟨hr, hH⟩ => ?_
  subst hr; subst hH
  cases hb : nameV holder
  · simp [hb]
    exact wF_own hw (by simp) (by simp [Ctx.valid, c1, c2, c3, c4, c5, c6, hb])
  · simp [hb]
    exact wF_own hw (by simp) (by simp [Ctx.valid, c1, c2, c3, c4, c5, c6, hb])
end Go.PE
namespace Go.PE
open Go
def Pred.wf (p : Pred) : Prop := (p.name.size : Int) ≤ 9223372036854775807 ∧ 0 ≤ p.mask ∧ p.mask < 18446744073709551616
def Ctx.wf (c : Ctx) : Prop := (c.holder.size : Int) ≤ 9223372036854775807
theorem Ctx.valid_iff (c : Ctx) : c.valid = true ↔ (0 ≤ c.zone ∧ c.zone ≤ 63 ∧ 0 ≤ c.line ∧ c.line ≤ 31 ∧ 0 ≤ c.minute ∧ c.minute ≤ 67108864 ∧ nameV c.holder = true) := by
  simp [Ctx.valid, and_assoc]
/-- bit n of a mask -/
def bit (m n : Int) : Bool := m / 2 ^ n.toNat % 2 == 1
theorem bit_fdiv {m n : Int} (hm : 0 ≤ m) (hn0 : 0 ≤ n) (hn : n ≤ 63) : m.fdiv (2 ^ min n.toNat 64) = m / 2 ^ n.toNat := by
  rw [show min n.toNat 64 = n.toNat by omega]
  rw [Int.fdiv_eq_ediv_of_nonneg _ (Int.le_of_lt (Int.pow_pos (by omega)))]
theorem bit_nonneg {m : Int} (hm : 0 ≤ m) (n : Nat) : 0 ≤ m / 2 ^ n := Int.ediv_nonneg hm (Int.le_of_lt (Int.pow_pos (by omega)))
theorem bit_le {m : Int} (hm : 0 ≤ m) (hm1 : m < 18446744073709551616) (n : Nat) : m / 2 ^ n < 18446744073709551616 := by
  have := Int.ediv_le_self (2 ^ n) hm
  omega
theorem bit_and {m n : Int} (hm : 0 ≤ m) (hm1 : m < 18446744073709551616) (hn0 : 0 ≤ n) (hn : n ≤ 63) : (bitsV .and .u64 (m.fdiv (2 ^ min n.toNat 64)) 1 == 1) = bit m n := by
  rw [bit_fdiv hm hn0 hn]
  have := and_mask (m := m / 2 ^ n.toNat) (n := 1) (bit_nonneg hm _) (bit_le hm hm1 _) (by omega)
  simp only [Int.pow_one, show (2 : Int) ^ 1 = 2 from rfl] at this
  rw [show (2 : Int) - 1 = 1 from rfl] at this
  rw [this]; rfl
theorem bit_rem {m n : Int} (hm : 0 ≤ m) (hn0 : 0 ≤ n) (hn : n ≤ 63) : ((m.fdiv (2 ^ min n.toNat 64)).tmod 2 == 1) = bit m n := by
  rw [bit_fdiv hm hn0 hn, Int.tmod_eq_emod_of_nonneg (bit_nonneg hm _)]; rfl
def dailyV (m fr to : Int) : Bool := if fr ≤ to then decide (fr ≤ m % 1440) && decide (m % 1440 ≤ to) else decide (fr ≤ m % 1440) || decide (m % 1440 ≤ to)
/-- does a predicate of kind k hold? -/
def rideV (k : Int) (p : Pred) (c : Ctx) : Bool :=
  if k = 1 then bit p.mask c.zone else if k = 2 then bit p.mask c.line else if k = 3 then bit p.mask (c.minute / 1440 % 7)
  else if k = 4 then decide (p.fr ≤ c.minute) && decide (c.minute ≤ p.to) else if k = 5 then dailyV c.minute p.fr p.to else if k = 6 then p.name == c.holder else true
def RideOK (P : Program) (f : Nat) (k : Int) : Prop := ∀ (p : Pred) (c : Ctx), p.wf → c.valid = true → ∀ (H : Nat → Option (List Value)) (nx : Nat),
    PCalls P f [c.v, p.v] H nx (fun _ => False) (fun r H' _ => r = .bool (rideV k p c) ∧ H' = H)
section
variable {P : Program} {f : Nat}
theorem zone_ok (hc : compFn P f = some (12, holds_ride_zoneC, [.t 4])) : RideOK P f 1 := by
  intro p c ⟨_, hm0, hm1⟩ hv H nx
  obtain ⟨h1, h2, h3, h4, h5, h6, h7⟩ := (Ctx.valid_iff c).1 hv
  refine PCalls_of hc (by simp) fun hw => ?_
  have hb := bit_and hm0 hm1 h1 h2
  simp [holds_ride_zoneC, Ctx.v, Ctx.cells, Pred.v, Pred.cells, h1, IntKind.bits]
  exact wF_own hw (by simp) (by simp [rideV, ← hb])
theorem line_ok (hc : compFn P f = some (12, holds_ride_lineC, [.t 4])) : RideOK P f 2 := by
  intro p c ⟨_, hm0, hm1⟩ hv H nx
  obtain ⟨h1, h2, h3, h4, h5, h6, h7⟩ := (Ctx.valid_iff c).1 hv
  refine PCalls_of hc (by simp) fun hw => ?_
  have hb := bit_and hm0 hm1 h3 (by omega)
  simp [holds_ride_lineC, Ctx.v, Ctx.cells, Pred.v, Pred.cells, h3, IntKind.bits]
  exact wF_own hw (by simp) (by simp [rideV, ← hb])
theorem days_eq {m : Int} (h : 0 ≤ m) (hm : m ≤ 67108864) : (IntKind.i64.wrap (m.tdiv 1440)).tmod 7 = m / 1440 % 7 ∧ IntKind.i64.wrap (m.tdiv 1440) = m / 1440 := by
  have e : m.tdiv 1440 = m / 1440 := Int.tdiv_eq_ediv_of_nonneg h
  rw [e, w64 (by omega) (by omega), Int.tmod_eq_emod_of_nonneg (by omega)]
  exact ⟨rfl, rfl⟩
theorem days_ok (hc : compFn P f = some (14, holds_ride_daysC, [.t 4])) : RideOK P f 3 := by
  intro p c ⟨_, hm0, hm1⟩ hv H nx
  obtain ⟨h1, h2, h3, h4, h5, h6, h7⟩ := (Ctx.valid_iff c).1 hv
  refine PCalls_of hc (by simp) fun hw => ?_
  have hd := (days_eq h5 h6).1
  have hd0 : 0 ≤ c.minute / 1440 % 7 := by omega
  have hb := bit_and hm0 hm1 hd0 (by omega)
  simp [holds_ride_daysC, Ctx.v, Ctx.cells, Pred.v, Pred.cells, hd, hd0, IntKind.bits]
  exact wF_own hw (by simp) (by simp [rideV, ← hb])
theorem time_ok (hc : compFn P f = some (17, holds_ride_timeC, [.t 4])) : RideOK P f 4 := by
  intro p c _ hv H nx
  refine PCalls_of hc (by simp) fun hw => ?_
  by_cases h : p.fr ≤ c.minute
  · simp [holds_ride_timeC, Ctx.v, Ctx.cells, Pred.v, Pred.cells, h]
    exact wF_own hw (by simp) (by simp [rideV, h])
  · simp [holds_ride_timeC, Ctx.v, Ctx.cells, Pred.v, Pred.cells, h]
    exact wF_own hw (by simp) (by simp [rideV, h])
theorem daily_ok (hc : compFn P f = some (34, holds_ride_dailyC, [.t 4])) : RideOK P f 5 := by
  intro p c _ hv H nx
  obtain ⟨h1, h2, h3, h4, h5, h6, h7⟩ := (Ctx.valid_iff c).1 hv
  have hm : c.minute.tmod 1440 = c.minute % 1440 := Int.tmod_eq_emod_of_nonneg h5
  refine PCalls_of hc (by simp) fun hw => ?_
  by_cases h : p.fr ≤ p.to
  · by_cases h' : p.fr ≤ c.minute % 1440
    · simp [holds_ride_dailyC, Ctx.v, Ctx.cells, Pred.v, Pred.cells, hm, h, h']
      exact wF_own hw (by simp) (by simp [rideV, dailyV, h, h'])
    · simp [holds_ride_dailyC, Ctx.v, Ctx.cells, Pred.v, Pred.cells, hm, h, h']
      exact wF_own hw (by simp) (by simp [rideV, dailyV, h, h'])
  · by_cases h' : p.fr ≤ c.minute % 1440
    · simp [holds_ride_dailyC, Ctx.v, Ctx.cells, Pred.v, Pred.cells, hm, h, h']
      exact wF_own hw (by simp) (by simp [rideV, dailyV, h, h'])
    · simp [holds_ride_dailyC, Ctx.v, Ctx.cells, Pred.v, Pred.cells, hm, h, h']
      exact wF_own hw (by simp) (by simp [rideV, dailyV, h, h'])
theorem holder_ok (hc : compFn P f = some (10, holds_ride_holderC, [.t 4])) : RideOK P f 6 := by
  intro p c _ hv H nx
  refine PCalls_of hc (by simp) fun hw => ?_
  simp [holds_ride_holderC, Ctx.v, Ctx.cells, Pred.v, Pred.cells]
  exact wF_own hw (by simp) (by simp [rideV])
theorem rides_ok (hc : compFn P f = some (5, holds_ride_ridesC, [.t 4])) : RideOK P f 7 := by
  intro p c _ hv H nx
  refine PCalls_of hc (by simp) fun hw => ?_
  simp [holds_ride_ridesC, Ctx.v, Ctx.cells, Pred.v, Pred.cells]
  exact wF_own hw (by simp) (by simp [rideV])
end
def holdsV (p : Pred) (c : Ctx) : Bool := p.valid && c.valid && rideV p.kind p c
def HoldsOK (P : Program) (f g : Nat) : Prop := ∀ (p : Pred) (c : Ctx), p.wf → c.wf → ∀ (H : Nat → Option (List Value)) (nx : Nat), H g = some bitsRow → g < nx →
    PCalls P f [p.v, c.v] H nx (fun _ => False) (fun r H' _ => r = .bool (holdsV p c) ∧ H' = H)
theorem Pred.valid_kind {p : Pred} (h : p.valid = true) : 1 ≤ p.kind ∧ p.kind ≤ 7 := by
  unfold Pred.valid at h
  repeat (split at h; · omega)
  cases h
theorem holds_ok {P : Program} {f g v cv z l d t da h r : Nat} (hc : compFn P f = some (37, holds_HoldsC v cv z l d t da h r, [.t 4])) (hv : PValidOK P v g) (hcv : CValidOK P cv g)
    (hz : RideOK P z 1) (hl : RideOK P l 2) (hd : RideOK P d 3) (ht : RideOK P t 4) (hda : RideOK P da 5) (hh : RideOK P h 6) (hr : RideOK P r 7)
    (oz : okFn P z = true) (ol : okFn P l = true) (od : okFn P d = true) (ot : okFn P t = true) (oda : okFn P da = true) (oh : okFn P h = true) (or : okFn P r = true) : HoldsOK P f g := by
  intro p c hp hcw H nx hg hgn
  have hg1 : ¬ g = nx := by omega
  have hg2 : ¬ g = nx + 1 := by omega
  have hpv : ag p.cells = p.v := rfl
  have hcv' : ag c.cells = c.v := rfl
  have hpl : p.cells.length = 6 := rfl
  have hcl : c.cells.length = 4 := rfl
  refine PCalls_of hc (by simp) fun hw => ?_
  obtain ⟨kind, mask, fr, to, name, num⟩ := p
  obtain ⟨zone, line, minute, holder⟩ := c
  simp [holds_HoldsC, Pred.v, Ctx.v, Pred.cells, Ctx.cells]
  refine wCall_eq (Q := fun r => r = .bool _) (hv ⟨kind, mask, fr, to, name, num⟩ hp.1 _ _ (by simp [hg, hg1, hg2]) (by simp; omega)) fun r1 nx1 hr1 hn1 => ?_
  subst hr1
  simp at hn1
  cases hb : (⟨kind, mask, fr, to, name, num⟩ : Pred).valid
  · simp [hb]
    exact wF_own hw (by simp) (by simp [holdsV, hb])
  · simp [hb]
    refine wCall_eq (Q := fun r => r = .bool _) (hcv ⟨zone, line, minute, holder⟩ hcw _ _ (by simp [hg, hg1, hg2]) (by simp; omega)) fun r2 nx2 hr2 hn2 => ?_
    subst hr2
    simp at hn2
    have e1 : ¬ nx = nx2 := by omega
    have e2 : ¬ nx + 1 = nx2 := by omega
    have e3 : ¬ nx = nx2 + 1 := by omega
    have e4 : nx ≤ nx2 := by omega
    have e5 : nx ≤ nx2 + 1 := by omega
    cases hb2 : (⟨zone, line, minute, holder⟩ : Ctx).valid
    · simp [hb2]
      exact wF_own hw (by simp) (by simp [holdsV, hb2])
    · have fin' : ∀ r, r = Value.bool (rideV kind ⟨kind, mask, fr, to, name, num⟩ ⟨zone, line, minute, holder⟩) →
          r = Value.bool (holdsV ⟨kind, mask, fr, to, name, num⟩ ⟨zone, line, minute, holder⟩) := by
        intro r h; rw [h]; simp [holdsV, hb, hb2]
      have hk := Pred.valid_kind hb
      simp only at hk
      rcases (by omega : kind = 1 ∨ kind = 2 ∨ kind = 3 ∨ kind = 4 ∨ kind = 5 ∨ kind = 6 ∨ kind = 7) with rfl | rfl | rfl | rfl | rfl | rfl | rfl
      · simp [hb2, e1, e2, e3, e4, e5, oz]
        refine wCall_eq (Q := fun r => r = .bool _) (hz _ ⟨zone, line, minute, holder⟩ hp hb2 _ _) fun r3 nx3 hr3 hn3 => ?_
        simp
        exact wF_own hw (by simp [e4, e5]) ⟨fin' _ (by rw [hr3]; rfl), rfl⟩
      · simp [hb2, e1, e2, e3, e4, e5, ol]
        refine wCall_eq (Q := fun r => r = .bool _) (hl _ ⟨zone, line, minute, holder⟩ hp hb2 _ _) fun r3 nx3 hr3 hn3 => ?_
        simp
        exact wF_own hw (by simp [e4, e5]) ⟨fin' _ (by rw [hr3]; rfl), rfl⟩
      · simp [hb2, e1, e2, e3, e4, e5, od]
        refine wCall_eq (Q := fun r => r = .bool _) (hd _ ⟨zone, line, minute, holder⟩ hp hb2 _ _) fun r3 nx3 hr3 hn3 => ?_
        simp
        exact wF_own hw (by simp [e4, e5]) ⟨fin' _ (by rw [hr3]; rfl), rfl⟩
      · simp [hb2, e1, e2, e3, e4, e5, ot]
        refine wCall_eq (Q := fun r => r = .bool _) (ht _ ⟨zone, line, minute, holder⟩ hp hb2 _ _) fun r3 nx3 hr3 hn3 => ?_
        simp
        exact wF_own hw (by simp [e4, e5]) ⟨fin' _ (by rw [hr3]; rfl), rfl⟩
      · simp [hb2, e1, e2, e3, e4, e5, oda]
        refine wCall_eq (Q := fun r => r = .bool _) (hda _ ⟨zone, line, minute, holder⟩ hp hb2 _ _) fun r3 nx3 hr3 hn3 => ?_
        simp
        exact wF_own hw (by simp [e4, e5]) ⟨fin' _ (by rw [hr3]; rfl), rfl⟩
      · simp [hb2, e1, e2, e3, e4, e5, oh]
        refine wCall_eq (Q := fun r => r = .bool _) (hh _ ⟨zone, line, minute, holder⟩ hp hb2 _ _) fun r3 nx3 hr3 hn3 => ?_
        simp
        exact wF_own hw (by simp [e4, e5]) ⟨fin' _ (by rw [hr3]; rfl), rfl⟩
      · simp [hb2, e1, e2, e3, e4, e5, or]
        refine wCall_eq (Q := fun r => r = .bool _) (hr _ ⟨zone, line, minute, holder⟩ hp hb2 _ _) fun r3 nx3 hr3 hn3 => ?_
        simp
        exact wF_own hw (by simp [e4, e5]) ⟨fin' _ (by rw [hr3]; rfl), rfl⟩
end Go.PE
namespace Go.PE
open Go
@[simp] theorem Ctx.len (c : Ctx) : c.cells.length = 4 := _root_.id rfl
@[simp] theorem Pred.len (p : Pred) : p.cells.length = 6 := _root_.id rfl
@[simp] theorem Ctx.dg1s (c : Ctx) : c.cells.map dg1 = c.cells := _root_.id rfl
@[simp] theorem Pred.dg1s (p : Pred) : p.cells.map dg1 = p.cells := _root_.id rfl
@[simp] theorem Ctx.take4 (c : Ctx) : c.cells.take 4 = c.cells := _root_.id rfl
@[simp] theorem Pred.take6 (p : Pred) : p.cells.take 6 = p.cells := _root_.id rfl
theorem Ctx.ag (c : Ctx) : PE.ag c.cells = c.v := rfl
theorem Pred.ag (p : Pred) : PE.ag p.cells = p.v := rfl
def RHoldsOK (P : Program) (f : Nat) : Prop := ∀ (p : Pred) (c : Ctx), p.wf → c.wf → ∀ (H : Nat → Option (List Value)) (nx : Nat),
    PCalls P f [p.v, c.v] H nx (fun _ => False) (fun r H' _ => r = .bool (holdsV p c) ∧ H' = H)
theorem rholds_ok {P : Program} {f v cv : Nat} (hc : compFn P f = some (99, ref06_HoldsC v cv, [.t 4])) (hv : RValidOK P v) (hcv : RCValidOK P cv) : RHoldsOK P f := by
  intro p c hp hcw H nx
  refine PCalls_of hc (by simp) fun hw => ?_
  obtain ⟨kind, mask, fr, to, name, num⟩ := p
  obtain ⟨zone, line, minute, holder⟩ := c
  have hm0 : 0 ≤ mask := hp.2.1
  have hm1 : mask < 18446744073709551616 := hp.2.2
  simp [ref06_HoldsC, Pred.v, Ctx.v, Pred.cells, Ctx.cells]
  refine wCall_eq (Q := fun r => r = .bool _) (hv ⟨kind, mask, fr, to, name, num⟩ hp.1 hm0 _ _) fun r1 nx1 hr1 hn1 => ?_
  subst hr1
  simp at hn1
  cases hb : (⟨kind, mask, fr, to, name, num⟩ : Pred).valid
  · simp [hb]
    exact wF_own hw (by simp) (by simp [holdsV, hb])
  · simp [hb]
    refine wCall_eq (Q := fun r => r = .bool _) (hcv ⟨zone, line, minute, holder⟩ hcw _ _) fun r2 nx2 hr2 hn2 => ?_
    subst hr2
    simp at hn2
    cases hb2 : (⟨zone, line, minute, holder⟩ : Ctx).valid
    · simp [hb2]
      exact wF_own hw (by simp) (by simp [holdsV, hb2])
    · have fin' : ∀ r, r = Value.bool (rideV kind ⟨kind, mask, fr, to, name, num⟩ ⟨zone, line, minute, holder⟩) →
          r = Value.bool (holdsV ⟨kind, mask, fr, to, name, num⟩ ⟨zone, line, minute, holder⟩) := by
        intro r h; rw [h]; simp [holdsV, hb, hb2]
      have hk := Pred.valid_kind hb
      simp only at hk
      obtain ⟨h1, h2, h3, h4, h5, h6, h7⟩ := (Ctx.valid_iff _).1 hb2
      simp only at h1 h2 h3 h4 h5 h6 h7
      rcases (by omega : kind = 1 ∨ kind = 2 ∨ kind = 3 ∨ kind = 4 ∨ kind = 5 ∨ kind = 6 ∨ kind = 7) with rfl | rfl | rfl | rfl | rfl | rfl | rfl
      · have hz : IntKind.u64.wrap zone = zone := by rw [IntKind.wrap_u64]; omega
        have hbt := bit_rem hm0 h1 h2
        simp [hb2, hz, h1, IntKind.bits]
        exact wF_own hw (by simp) ⟨fin' _ (by simp [rideV, ← hbt]), rfl⟩
      · have hz : IntKind.u64.wrap line = line := by rw [IntKind.wrap_u64]; omega
        have hbt := bit_rem hm0 h3 (by omega)
        simp [hb2, hz, h3, IntKind.bits]
        exact wF_own hw (by simp) ⟨fin' _ (by simp [rideV, ← hbt]), rfl⟩
      · have hd := (days_eq h5 h6).1
        have hd0 : 0 ≤ minute / 1440 % 7 := by omega
        have hz : IntKind.u64.wrap (minute / 1440 % 7) = minute / 1440 % 7 := by rw [IntKind.wrap_u64]; omega
        have hbt := bit_rem hm0 hd0 (by omega)
        simp [hb2, hd, hz, hd0, IntKind.bits]
        exact wF_own hw (by simp) ⟨fin' _ (by simp [rideV, ← hbt]), rfl⟩
      · by_cases c1 : fr ≤ minute
        · simp [hb2, c1]
          exact wF_own hw (by simp) ⟨fin' _ (by simp [rideV, c1]), rfl⟩
        · simp [hb2, c1]
          exact wF_own hw (by simp) ⟨fin' _ (by simp [rideV, c1]), rfl⟩
      · have hmm : minute.tmod 1440 = minute % 1440 := Int.tmod_eq_emod_of_nonneg h5
        by_cases c1 : fr ≤ to
        · by_cases c2 : fr ≤ minute % 1440
          · simp [hb2, hmm, c1, c2]
            exact wF_own hw (by simp) ⟨fin' _ (by simp [rideV, dailyV, c1, c2]), rfl⟩
          · simp [hb2, hmm, c1, c2]
            exact wF_own hw (by simp) ⟨fin' _ (by simp [rideV, dailyV, c1, c2]), rfl⟩
        · by_cases c2 : fr ≤ minute % 1440
          · simp [hb2, hmm, c1, c2]
            exact wF_own hw (by simp) ⟨fin' _ (by simp [rideV, dailyV, c1, c2]), rfl⟩
          · simp [hb2, hmm, c1, c2]
            exact wF_own hw (by simp) ⟨fin' _ (by simp [rideV, dailyV, c1, c2]), rfl⟩
      · simp [hb2]
        exact wF_own hw (by simp) ⟨fin' _ (by simp [rideV, Bool.beq_comm]), rfl⟩
      · simp [hb2]
        exact wF_own hw (by simp) ⟨fin' _ (by simp [rideV]), rfl⟩
/-- the first that does not hold -/
def allV : List Pred → Ctx → Int → Int × Bool
  | [], _, _ => (0, true)
  | p :: r, c, i => if holdsV p c then allV r c (i + 1) else (i, false)
def allP (l : List Pred) (c : Ctx) : Value := tup [.int .i64 (allV l c 0).1, .bool (allV l c 0).2]
theorem allV_step {l : List Pred} {c : Ctx} {i : Nat} (hi : i < l.length) : allV (l.drop i) c i = if holdsV l[i] c then allV (l.drop (i + 1)) c (i + 1 : Nat) else ((i : Int), false) := by
  rw [List.drop_eq_getElem_cons hi]
  simp [allV]
def AllOK (P : Program) (f g : Nat) : Prop := ∀ (l : List Pred) (c : Ctx), (∀ p ∈ l, p.wf) → c.wf → l.length ≤ maxLen → ∀ (H : Nat → Option (List Value)) (nx : Nat), H g = some bitsRow → g < nx →
    PCalls P f [deep (l.map Pred.v), c.v] H nx (fun _ => False) (fun r H' _ => r = allP l c ∧ H' = H)
theorem elem_pred {l : List Pred} {n : Int} (h0 : 0 ≤ n) (hn : n.toNat < l.length) : elemAt (l.map Pred.v) n 6 = some (dptr 0 l[n.toNat].cells) := elemAt_map h0 hn rfl rfl
theorem all_ok {P : Program} {f g h : Nat} (hc : compFn P f = some (21, holds_AllC h, [.t 4, .t 5])) (hh : HoldsOK P h g) : AllOK P f g := by
  intro l c hl hcw hlen H nx hg hgn
  have hg1 : ¬ g = nx := by omega
  refine PCalls_of hc (by simp) fun hw => ?_
  have hmx : (maxLen : Int) = 9223372036854775807 := rfl
  simp [holds_AllC, Ctx.v]
  refine wpc_loop _ _ _ _ _ _ (fun s => ∃ i : Nat, i ≤ l.length ∧ s.t 3 = ptr nx 0 ∧ s.t 8 = deep (l.map Pred.v) ∧ s.t 9 = .int .i64 l.length ∧ s.t 10 = .int .i64 i ∧ s.H = upd H nx (some c.cells) ∧ nx + 1 ≤ s.nx ∧ allV l c 0 = allV (l.drop i) c i)
        (fun s => match s.t 10 with | .int _ i => (l.length - i).toNat | _ => 0) _ ⟨0, by omega, by simp, by simp, by simp, by simp, rfl, by simp, by simp⟩ ?_
  rintro ⟨t, H', nx'⟩ ⟨i, hi1, e3, e8, e9, e10, rfl, hnx, hall⟩
  simp only at e3 e8 e9 e10 hnx
  simp [e3, e8, e9, e10]
  refine wB_of (fun hlt => ?_) (fun hlt => ?_)
  · simp at hlt
    have he := elem_pred (l := l) (n := (i : Int)) (by omega) (by simpa using hlt)
    simp at he
    have hne : ¬ nx = nx' := by omega
    have hg2 : ¬ g = nx' := by omega
    have hnn : nx ≤ nx' := by omega
    simp [e3, e8, e9, e10, he, hne, hnn]
    refine wCall_eq (Q := fun r => r = .bool _) (hh l[i] c (hl _ (List.getElem_mem _)) hcw _ _ (by simp [hg, hg1, hg2]) (by simp; omega)) fun r1 nx1 hr1 hn1 => ?_
    subst hr1
    simp at hn1
    have hst := allV_step (c := c) hlt
    cases hb : holdsV l[i] c
    · simp [hb]
      refine wF_own hw (by simp [hnn]) ⟨?_, rfl⟩
      simp [allP, hall, hst, hb]
    · simp [hb, e10]
      rw [w64 (x := (i : Int) + 1) (by omega) (by omega)]
      refine kLoop_nrm _ _ _ (upd H nx (some c.cells)) ?_ ⟨i + 1, by omega, by simp [e3], by simp [e8], by simp [e9], by simp, rfl, by simp; omega, ?_⟩ (by simp; omega)
      · exact (Sub_refl _ _).upd hnn (by simp [Ne.symm hne]; exact hw _ hnn)
      · rw [hall, hst, hb]; rfl
  · simp at hlt
    refine wF_own hw (by simp) ⟨?_, rfl⟩
    rw [List.drop_eq_nil_of_le (by omega)] at hall
    simp [allP, hall, allV]
def RAllOK (P : Program) (f : Nat) : Prop := ∀ (l : List Pred) (c : Ctx), (∀ p ∈ l, p.wf) → c.wf → l.length ≤ maxLen → ∀ (H : Nat → Option (List Value)) (nx : Nat),
    PCalls P f [deep (l.map Pred.v), c.v] H nx (fun _ => False) (fun r H' _ => r = allP l c ∧ H' = H)
theorem rall_ok {P : Program} {f h : Nat} (hc : compFn P f = some (21, ref06_AllC h, [.t 4, .t 5])) (hh : RHoldsOK P h) : RAllOK P f := by
  intro l c hl hcw hlen H nx
  refine PCalls_of hc (by simp) fun hw => ?_
  have hmx : (maxLen : Int) = 9223372036854775807 := rfl
  simp [ref06_AllC, Ctx.v]
  refine wpc_loop _ _ _ _ _ _ (fun s => ∃ i : Nat, i ≤ l.length ∧ s.t 0 = deep (l.map Pred.v) ∧ s.t 3 = ptr nx 0 ∧ s.t 6 = .int .i64 i ∧ s.H = upd H nx (some c.cells) ∧ nx + 1 ≤ s.nx ∧ allV l c 0 = allV (l.drop i) c i)
        (fun s => match s.t 6 with | .int _ i => (l.length - i).toNat | _ => 0) _ ⟨0, by omega, by simp, by simp, by simp, rfl, by simp, by simp⟩ ?_
  rintro ⟨t, H', nx'⟩ ⟨i, hi1, e0, e3, e6, rfl, hnx, hall⟩
  simp only at e0 e3 e6 hnx
  simp [e0, e3, e6]
  refine wB_of (fun hlt => ?_) (fun hlt => ?_)
  · simp at hlt
    have he := elem_pred (l := l) (n := (i : Int)) (by omega) (by simpa using hlt)
    simp at he
    simp [e0, e3, e6, he]
    refine wqCall_of (hh l[i] c (hl _ (List.getElem_mem _)) hcw _ _) rfl (fun _ _ _ h => h.1) ?_
    have hst := allV_step (c := c) hlt
    cases hb : holdsV l[i] c
    · simp [hb, e6]
      refine wF_own hw (by simp) ⟨?_, rfl⟩
      simp [allP, hall, hst, hb]
    · simp [hb, e6]
      rw [w64 (x := (i : Int) + 1) (by omega) (by omega)]
      refine kLoop_nrm _ _ _ (upd H nx (some c.cells)) (Sub_refl _ _) ⟨i + 1, by omega, by simp [e0], by simp [e3], by simp, rfl, by simp; omega, ?_⟩ (by simp; omega)
      rw [hall, hst, hb]; rfl
  · simp at hlt
    refine wF_own hw (by simp) ⟨?_, rfl⟩
    rw [List.drop_eq_nil_of_le (by omega)] at hall
    simp [allP, hall, allV]
end Go.PE
namespace Go.PE
open Go
/-- a predicate of the deck's -/
def isPred (rides : Bool) (v : Value) : Prop := ∃ q : Pred, v = q.v ∧ q.valid = true ∧ q.wf ∧ (rides = false → q.kind ≠ 7)
theorem names_good {b : ByteArray} (h : b ∈ names) : nameV b = true := by
  simp only [names, List.mem_cons, List.not_mem_nil, or_false] at h
  rcases h with rfl | rfl | rfl | rfl | rfl | rfl | rfl | rfl <;> decide +kernel
theorem names_size {b : ByteArray} (h : b ∈ names) : b.size ≤ 16 := by
  have := names_good h
  simp only [nameV, Bool.and_eq_true, decide_eq_true_eq] at this
  omega
theorem maskV_of {m : Int} {n : Nat} (h : 0 < m) (h1 : m < 2 ^ n) (hn : n ≤ 64) : maskV m n = true := by
  by_cases e : n = 64
  · subst e; rw [show ((64 : Nat) : Int) = 64 from rfl, maskV_64]; simp; omega
  · rw [maskV_lt (by omega) (by omega)]; simp [h1]; omega
theorem maskV_isMask {m n : Int} (h0 : 1 ≤ n) (hn : n ≤ 64) (h : 0 < m) (h1 : m < 2 ^ n.toNat) : maskV m n = true := by
  have := maskV_of (n := n.toNat) h h1 (by omega)
  rwa [show ((n.toNat : Nat) : Int) = n by omega] at this
theorem mask_lt64 {m n : Int} (hn : n ≤ 64) (h1 : m < 2 ^ n.toNat) : m < 18446744073709551616 := by
  have h2 : (2 : Nat) ^ n.toNat ≤ 2 ^ 64 := Nat.pow_le_pow_right (by omega) (by omega)
  have e2 : (2 : Int) ^ n.toNat = ((2 ^ n.toNat : Nat) : Int) := by simp
  rw [e2] at h1
  omega
theorem predicate_w {P : Program} {f r m mi nx_ n u : Nat} (hc : compFn P f = some (81, made_Deck_PredicateC r m mi nx_ n u, [.cA 4 6])) (hn : NextW P nx_)
    (hr : ∀ lo hi : Int, 0 ≤ lo → lo ≤ hi → hi < 4611686018427387904 → Draws P r [.int .i64 lo, .int .i64 hi] (isI lo hi)) (hm : ∀ n : Int, 1 ≤ n → n ≤ 64 → Draws P m [.int .i64 n] (isMask n))
    (hmi : Draws P mi [] (isI 0 67108864)) (hN : Draws P n [] isN) (hu : ∀ n : Int, 2 ≤ n → n < 4611686018427387903 → Draws P u [.int .i64 n] (isI 0 n)) (b : Bool) : Draws P f [.bool b] (isPred b) := by
  intro k l at_ ha hl H nx hk
  refine PCalls_of hc (by simp) fun hw => ?_
  have hkn : k < nx := by
    rcases Nat.lt_or_ge k nx with h | h
    · exact h
    · have := hw k h; rw [hk] at this; cases this
  have d1 : ¬ k = nx := by omega
  simp [made_Deck_PredicateC]
  refine wCall_drawL (hr 1 7 (by omega) (by omega) (by omega)) ha hl (by simp [hk, d1]) (.inr rfl) fun p1 at1 n1 hp1 ha1 hn1 => ?_
  obtain ⟨kind, rfl, hk1, hk7⟩ := hp1
  simp at hn1
  have d2 : ¬ k = n1 := by omega
  have d3 : ¬ nx = n1 := by omega
  have d4 : nx ≤ n1 := by omega
  have d5 : ¬ nx = k := by omega
  have d6 : ¬ n1 = k := by omega
  have d7 : ¬ n1 = nx := by omega
  have tail : ∀ (H' : Nat → Option (List Value)) (nx' : Nat) (at' : Int) (q : Pred), 0 ≤ at' → H' k = some (dk l at') → (∀ j, j < nx → j ≠ k → H' j = H j) → q.valid = true → q.wf → (b = false → q.kind ≠ 7) →
      wF (some [q.v]) nx (fun p H' _ => isPred b p ∧ Drew H k l H') H' nx' := by
    intro H' nx' at' q h0 ek hoth hv hwf hb
    exact wF_sub ((own_k (r := some (dk l at')) ek hoth).sub (none_k hw hkn)) ⟨⟨q, rfl, hv, hwf, hb⟩, at', h0, rfl⟩
  by_cases h1 : kind = 1
  · subst h1
    simp [d1, d2, d3, d4, d5, d6, d7]
    refine wCall_drawL (hm 64 (by omega) (by omega)) ha1 hl (by simp [d1, d2, d5, d6]) (.inr rfl) fun p2 at2 n2 hp2 ha2 hn2 => ?_
    obtain ⟨v, rfl, hv0, hv1⟩ := hp2
    simp [d1, d2, d3, d4, d5, d6, d7]
    refine tail _ _ at2 ⟨1, v, 0, 0, ⟨#[]⟩, 0⟩ ha2 (by simp [d1, d2, d5, d6]) (fun j hj hjk => ?_) (by simp [Pred.valid, maskV_isMask (n := 64) (by omega) (by omega) hv0 hv1]) ⟨by simp, Int.le_of_lt hv0, mask_lt64 (by omega) hv1⟩ (by simp)
    simp [show ¬ j = nx by omega, show ¬ j = n1 by omega, hjk]
  by_cases h2 : kind = 2
  · subst h2
    simp [d1, d2, d3, d4, d5, d6, d7]
    refine wCall_drawL (hm 32 (by omega) (by omega)) ha1 hl (by simp [d1, d2, d5, d6]) (.inr rfl) fun p2 at2 n2 hp2 ha2 hn2 => ?_
    obtain ⟨v, rfl, hv0, hv1⟩ := hp2
    simp [d1, d2, d3, d4, d5, d6, d7]
    refine tail _ _ at2 ⟨2, v, 0, 0, ⟨#[]⟩, 0⟩ ha2 (by simp [d1, d2, d5, d6]) (fun j hj hjk => ?_) (by simp [Pred.valid, maskV_isMask (n := 32) (by omega) (by omega) hv0 hv1]) ⟨by simp, Int.le_of_lt hv0, mask_lt64 (by omega) hv1⟩ (by simp)
    simp [show ¬ j = nx by omega, show ¬ j = n1 by omega, hjk]
  by_cases h3 : kind = 3
  · subst h3
    simp [d1, d2, d3, d4, d5, d6, d7]
    refine wCall_drawL (hm 7 (by omega) (by omega)) ha1 hl (by simp [d1, d2, d5, d6]) (.inr rfl) fun p2 at2 n2 hp2 ha2 hn2 => ?_
    obtain ⟨v, rfl, hv0, hv1⟩ := hp2
    simp [d1, d2, d3, d4, d5, d6, d7]
    refine tail _ _ at2 ⟨3, v, 0, 0, ⟨#[]⟩, 0⟩ ha2 (by simp [d1, d2, d5, d6]) (fun j hj hjk => ?_) (by simp [Pred.valid, maskV_isMask (n := 7) (by omega) (by omega) hv0 hv1]) ⟨by simp, Int.le_of_lt hv0, mask_lt64 (by omega) hv1⟩ (by simp)
    simp [show ¬ j = nx by omega, show ¬ j = n1 by omega, hjk]
  by_cases h4 : kind = 4
  · subst h4
    simp [d1, d2, d3, d4, d5, d6, d7]
    refine wCall_drawL hmi ha1 hl (by simp [d1, d2, d5, d6]) (.inr rfl) fun p2 at2 n2 hp2 ha2 hn2 => ?_
    obtain ⟨v, rfl, hv0, hv1⟩ := hp2
    simp [d1, d2, d3, d4, d5, d6, d7]
    refine wCall_drawL hmi ha2 hl (by simp [d1, d2, d5, d6]) (.inr rfl) fun p3 at3 n3 hp3 ha3 hn3 => ?_
    obtain ⟨w, rfl, hw0, hw1⟩ := hp3
    simp [d1, d2, d3, d4, d5, d6, d7]
    refine tail _ _ at3 ⟨4, 0, if w < v then w else v, if v < w then w else v, ⟨#[]⟩, 0⟩ ha3 (by simp [d1, d2, d5, d6]) (fun j hj hjk => ?_) ?_ ⟨by simp, by simp, by simp⟩ (by simp)
    · simp [show ¬ j = nx by omega, show ¬ j = n1 by omega, hjk]
    · simp [Pred.valid]; split <;> split <;> omega
  by_cases h5 : kind = 5
  · subst h5
    simp [d1, d2, d3, d4, d5, d6, d7]
    refine wCall_drawL (hn 1440 (by omega) (by omega)) ha1 hl (by simp [d1, d2, d5, d6]) (.inr rfl) fun p2 at2 n2 hp2 ha2 hn2 => ?_
    obtain ⟨v, rfl, hv0, hv1⟩ := hp2
    simp [d1, d2, d3, d4, d5, d6, d7]
    refine wCall_drawL (hn 1440 (by omega) (by omega)) ha2 hl (by simp [d1, d2, d5, d6]) (.inr rfl) fun p3 at3 n3 hp3 ha3 hn3 => ?_
    obtain ⟨w, rfl, hw0, hw1⟩ := hp3
    simp [d1, d2, d3, d4, d5, d6, d7]
    refine wCall_drawL (hn 3 (by omega) (by omega)) ha3 hl (by simp [d1, d2, d5, d6]) (.inr rfl) fun p4 at4 n4 hp4 ha4 hn4 => ?_
    obtain ⟨x, rfl, hx0, hx1⟩ := hp4
    simp [d1, d2, d3, d4, d5, d6, d7]
    refine wB_of (fun hx => ?_) (fun hx => ?_)
    · refine ⟨?_, ?_⟩
      all_goals
        refine wCall_drawL (hn 3 (by omega) (by omega)) ha4 hl (by simp [d1, d2, d5, d6]) (.inr rfl) fun p5 at5 n5 hp5 ha5 hn5 => ?_
        obtain ⟨y, rfl, hy0, hy1⟩ := hp5
        simp [d1, d2, d3, d4, d5, d6, d7]
        rw [w64 (x := v + y) (by omega) (by omega), w64 (x := v + y + 1440) (by omega) (by omega), w64 (x := v + y + 1440 - 1) (by omega) (by omega), Int.tmod_eq_emod_of_nonneg (by omega)]
        refine tail _ _ at5 ⟨5, 0, v, (v + y + 1440 - 1) % 1440, ⟨#[]⟩, 0⟩ ha5 (by simp [d1, d2, d5, d6]) (fun j hj hjk => ?_) ?_ ⟨by simp, by simp, by simp⟩ (by simp)
        · simp [show ¬ j = nx by omega, show ¬ j = n1 by omega, hjk]
        · simp [Pred.valid]; omega
    · refine tail _ _ at4 ⟨5, 0, v, w, ⟨#[]⟩, 0⟩ ha4 (by simp [d1, d2, d5, d6]) (fun j hj hjk => ?_) ?_ ⟨by simp, by simp, by simp⟩ (by simp)
      · simp [show ¬ j = nx by omega, show ¬ j = n1 by omega, hjk]
      · simp [Pred.valid]; omega
  by_cases h6 : kind = 6
  · subst h6
    simp [d1, d2, d3, d4, d5, d6, d7]
    refine wCall_drawL hN ha1 hl (by simp [d1, d2, d5, d6]) (.inr rfl) fun p2 at2 n2 hp2 ha2 hn2 => ?_
    obtain ⟨v, hv, rfl⟩ := hp2
    simp [d1, d2, d3, d4, d5, d6, d7]
    refine tail _ _ at2 ⟨6, 0, 0, 0, v, 0⟩ ha2 (by simp [d1, d2, d5, d6]) (fun j hj hjk => ?_) (by simp [Pred.valid, names_good hv]) ⟨by have := names_size hv; simp only; omega, by simp, by simp⟩ (by simp)
    simp [show ¬ j = nx by omega, show ¬ j = n1 by omega, hjk]
  · obtain rfl : kind = 7 := by omega
    cases b
    · simp [d1, d2, d3, d4, d5, d6, d7]
      refine wCall_drawL hmi ha1 hl (by simp [d1, d2, d5, d6]) (.inr rfl) fun p2 at2 n2 hp2 ha2 hn2 => ?_
      obtain ⟨v, rfl, hv0, hv1⟩ := hp2
      simp [d1, d2, d3, d4, d5, d6, d7]
      refine wCall_drawL hmi ha2 hl (by simp [d1, d2, d5, d6]) (.inr rfl) fun p3 at3 n3 hp3 ha3 hn3 => ?_
      obtain ⟨w, rfl, hw0, hw1⟩ := hp3
      simp [d1, d2, d3, d4, d5, d6, d7]
      refine tail _ _ at3 ⟨4, 0, if w < v then w else v, if v < w then w else v, ⟨#[]⟩, 0⟩ ha3 (by simp [d1, d2, d5, d6]) (fun j hj hjk => ?_) ?_ ⟨by simp, by simp, by simp⟩ (by simp)
      · simp [show ¬ j = nx by omega, show ¬ j = n1 by omega, hjk]
      · simp [Pred.valid]; split <;> split <;> omega
    · simp [d1, d2, d3, d4, d5, d6, d7]
      refine wCall_drawL (hu 1000000 (by omega) (by omega)) ha1 hl (by simp [d1, d2, d5, d6]) (.inr rfl) fun p2 at2 n2 hp2 ha2 hn2 => ?_
      obtain ⟨v, rfl, hv0, hv1⟩ := hp2
      simp [d1, d2, d3, d4, d5, d6, d7]
      refine tail _ _ at2 ⟨7, 0, 0, 0, ⟨#[]⟩, v⟩ ha2 (by simp [d1, d2, d5, d6]) (fun j hj hjk => ?_) (by simp [Pred.valid, hv0, hv1]) ⟨by simp, by simp, by simp⟩ (by simp)
      simp [show ¬ j = nx by omega, show ¬ j = n1 by omega, hjk]
end Go.PE
namespace Go.PE
open Go
@[simp] theorem Pred.lcv (p : Pred) : lc p.v = p.cells := _root_.id rfl
@[simp] theorem Pred.cellsOf (p : Pred) : PE.cellsOf p.v = some p.cells := _root_.id rfl
@[simp] theorem Pred.dgv (p : Pred) : dg p.v = p.v := _root_.id rfl
@[simp] theorem Pred.dgTv (p : Pred) : dgT p.v = p.v := _root_.id rfl
@[simp] theorem Ctx.dgv (p : Ctx) : dg p.v = p.v := _root_.id rfl
@[simp] theorem Ctx.cellsOf (p : Ctx) : PE.cellsOf p.v = some p.cells := _root_.id rfl
def GoodPred (b : Bool) (q : Pred) : Prop := q.valid = true ∧ q.wf ∧ (b = false → q.kind ≠ 7)
def isPreds (e : Nat) (n : Int) (b : Bool) (v : Value) : Prop := ∃ qs : List Pred, v = lin e (qs.map Pred.v) ∧ (qs.length : Int) ≤ n ∧ ∀ q ∈ qs, GoodPred b q
theorem predicates_w {P : Program} {f e nx_ p : Nat} (hc : compFn P f = some (24, made_Deck_PredicatesC e nx_ p, [.t 6])) (hn : NextW P nx_) (hp : ∀ b, Draws P p [.bool b] (isPred b)) (n : Int) (b : Bool) (h0 : 0 ≤ n) (h1 : n ≤ 1000000) :
    Draws P f [.int .i64 n, .bool b] (isPreds e n b) := by
  intro k l at_ ha hl H nx hk
  refine PCalls_of hc (by simp) fun hw => ?_
  have hkn : k < nx := by
    rcases Nat.lt_or_ge k nx with h | h
    · exact h
    · have := hw k h; rw [hk] at this; cases this
  simp [made_Deck_PredicatesC]
  rw [w64 (x := n + 1) (by omega) (by omega)]
  refine wCall_drawL (hn (n + 1) (by omega) (by omega)) ha hl (by simp [hk]) (.inr rfl) fun p1 at1 n1 hp1 ha1 hn1 => ?_
  obtain ⟨m, rfl, hm0, hm1⟩ := hp1
  simp at hn1
  simp
  refine wpc_loop _ _ _ _ _ _ (fun s => ∃ (qs : List Pred) (at' : Int), 0 ≤ at' ∧ s.t 0 = ptr k 0 ∧ s.t 2 = .bool b ∧ s.t 7 = lin e (qs.map Pred.v) ∧ (∃ j : Int, s.t 8 = .int .i64 j ∧ 0 ≤ j ∧ j + qs.length ≤ n) ∧ (∀ q ∈ qs, GoodPred b q) ∧ s.H = upd H k (some (dk l at')) ∧ nx ≤ s.nx)
    (fun s => match s.t 8 with | .int _ i => i.toNat | _ => 0) _ ⟨[], at1, ha1, by simp, by simp, by simp, ⟨m, by simp, by omega, by simp; omega⟩, by simp, rfl, by simpa using hn1⟩ ?_
  rintro ⟨t, H', nx'⟩ ⟨qs, at', ha', e0, e2, e7, ⟨j, e8, hj0, hj1⟩, hq, rfl, hnx⟩
  simp only at e0 e2 e7 e8 hnx
  simp [e0, e2, e7, e8]
  refine wB_of (fun hlt => ?_) (fun hlt => ?_)
  · simp at hlt
    refine wCall_drawL (hp b) ha' hl (by simp) (.inr rfl) fun p2 at2 n2 hp2 ha2 hn2 => ?_
    obtain ⟨q, rfl, hv, hwf, hb⟩ := hp2
    simp [e0, e2, e7, e8, maxLen]
    refine ⟨by omega, by omega, ?_⟩
    rw [w64 (x := j - 1) (by omega) (by omega)]
    refine kLoop_nrm _ _ _ (upd H k (some (dk l at2))) (Sub_refl _ _) ⟨qs ++ [q], at2, ha2, by simp [e0], by simp [e2], by simp, ⟨j - 1, by simp, by omega, by simp; omega⟩, ?_, rfl, by simp at hn2; simp; omega⟩ (by simp; omega)
    intro x hx
    simp at hx
    rcases hx with hx | rfl
    · exact hq x hx
    · exact ⟨hv, hwf, hb⟩
  · simp at hlt
    refine wF_of ⟨⟨qs, by simp, by omega, hq⟩, at', ha', rfl⟩
def LawOK (P : Program) (f g : Nat) : Prop := ∀ (H : Nat → Option (List Value)) (nx : Nat), H g = some bitsRow → g < nx → PCalls P f [] H nx (fun _ => False) (fun r H' _ => r = .bool true ∧ H' = H)
theorem awake7_ok {P : Program} {f g h : Nat} (hc : compFn P f = some (12, law07_awakeC h, [.t 0])) (hh : HoldsOK P h g) : LawOK P f g := by
  intro H nx hg hgn
  refine PCalls_of hc (by simp) fun hw => ?_
  have hg1 : ¬ g = nx := by omega
  simp [law07_awakeC]
  have h1 : holdsV ⟨5, 0, 1380, 300, ⟨#[]⟩, 0⟩ ⟨0, 0, 10, ⟨#[97]⟩⟩ = true := by decide +kernel
  have h2 : holdsV ⟨5, 0, 1380, 300, ⟨#[]⟩, 0⟩ ⟨0, 0, 600, ⟨#[97]⟩⟩ = false := by decide +kernel
  refine wCall_eq (Q := fun r => r = .bool _) (hh ⟨5, 0, 1380, 300, ⟨#[]⟩, 0⟩ ⟨0, 0, 10, ⟨#[97]⟩⟩ ⟨by simp, by simp, by simp⟩ (by unfold Ctx.wf; decide +kernel) _ _ (by simp [hg, hg1]) (by simp; omega)) fun r1 n1 hr1 hn1 => ?_
  subst hr1
  simp [h1]
  refine wCall_eq (Q := fun r => r = .bool _) (hh ⟨5, 0, 1380, 300, ⟨#[]⟩, 0⟩ ⟨0, 0, 600, ⟨#[97]⟩⟩ ⟨by simp, by simp, by simp⟩ (by unfold Ctx.wf; decide +kernel) _ _ (by simp [hg, hg1]) (by simp at hn1; simp; omega)) fun r1 n1 hr1 hn1 => ?_
  subst hr1
  simp [h2]
  exact wF_own hw (by simp) (by simp)
/-- the deck's lists -/
def dl (l : List Int) : Value := deep (l.map (.int .i64))
def NewOK (P : Program) (f : Nat) : Prop := ∀ (l : List Int) (H : Nat → Option (List Value)) (nx : Nat), PCalls P f [deep (l.map (.int .i64))] H nx (fun _ => False) (fun p H' nx' => p = ptr nx 0 ∧ H' = upd H nx (some (dk l 0)) ∧ nx' = nx + 1)
theorem isCtx_ok {v : Value} (h : isCtx v) : ∃ c : Ctx, v = c.v ∧ c.valid = true ∧ c.wf := by
  obtain ⟨z, l, m, b, rfl, h1, h2, h3, h4, h5, h6, h7⟩ := h
  refine ⟨⟨z, l, m, b⟩, rfl, by simp [Ctx.valid, h1, h2, h3, h4, h5, h6, names_good h7], ?_⟩
  have := names_size h7
  unfold Ctx.wf; simp only; omega
end Go.PE
namespace Go.PE
open Go
theorem max_len : (maxLen : Int) = 9223372036854775807 := rfl
theorem pred_of {P : Program} {t : Nat} (h : ∃ fs, P.underlying t = some (.struct fs)) (hf : flat P 3 t = some [.int .i64, .int .u64, .int .i64, .int .i64, .str, .int .i64]) {cs : List Value} (hp : PTy P t cs) : ∃ q : Pred, toV P t cs = q.v ∧ q.wf := by
  obtain ⟨fs, h⟩ := h
  obtain ⟨v1, w1, rfl, ⟨k, rfl, _, _⟩, k1⟩ := fk_cons (flat_ok 3 t _ cs hf hp)
  obtain ⟨v2, w2, rfl, ⟨m, rfl, hm0, hm1⟩, k2⟩ := fk_cons k1
  obtain ⟨v3, w3, rfl, ⟨fr, rfl, _, _⟩, k3⟩ := fk_cons k2
  obtain ⟨v4, w4, rfl, ⟨to, rfl, _, _⟩, k4⟩ := fk_cons k3
  obtain ⟨v5, w5, rfl, ⟨s, rfl, hs⟩, k5⟩ := fk_cons k4
  obtain ⟨v6, w6, rfl, ⟨n, rfl, _, _⟩, k6⟩ := fk_cons k5
  obtain rfl := fk_nil k6
  refine ⟨⟨k, m, fr, to, s, n⟩, toV_ag h _, ?_, ?_, ?_⟩
  · have := max_len; show (s.size : Int) ≤ _; omega
  · exact hm0
  · have : IntKind.u64.max = 18446744073709551615 := rfl
    show m < _; omega
theorem ctx_of {P : Program} {t : Nat} (h : ∃ fs, P.underlying t = some (.struct fs)) (hf : flat P 3 t = some [.int .i64, .int .i64, .int .i64, .str]) {cs : List Value} (hp : PTy P t cs) : ∃ q : Ctx, toV P t cs = q.v ∧ q.wf := by
  obtain ⟨fs, h⟩ := h
  obtain ⟨v7, w7, rfl, ⟨z, rfl, _, _⟩, k1⟩ := fk_cons (flat_ok 3 t _ cs hf hp)
  obtain ⟨v8, w8, rfl, ⟨l, rfl, hm0, hm1⟩, k2⟩ := fk_cons k1
  obtain ⟨v9, w9, rfl, ⟨m, rfl, _, _⟩, k3⟩ := fk_cons k2
  obtain ⟨v10, w10, rfl, ⟨s, rfl, hs⟩, k4⟩ := fk_cons k3
  obtain rfl := fk_nil k4
  refine ⟨⟨z, l, m, s⟩, toV_ag h _, ?_⟩
  have := max_len; show (s.size : Int) ≤ _; omega
theorem pargs_nil {P : Program} {ps : List Value} (h : Pargs P [] ps) : ps = [] := by
  cases ps with
  | nil => rfl
  | cons => cases h
theorem pargs_cons {P : Program} {t : Nat} {ts : List TypeId} {ps : List Value} (h : Pargs P (t :: ts) ps) : ∃ cs qs, ps = toV P t cs :: qs ∧ PTy P t cs ∧ Pargs P ts qs := by
  cases ps with
  | nil => cases h
  | cons p ps =>
    obtain ⟨⟨cs, h1, h2⟩, h3⟩ := h
    exact ⟨cs, ps, by rw [h2], h1, h3⟩
end Go.PE
