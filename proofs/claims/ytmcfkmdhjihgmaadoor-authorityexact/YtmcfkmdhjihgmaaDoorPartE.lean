/- what holds for a ride: the methods the references' Holds; All The deck: predicates. The deck: lists of predicates; layer 7's sanity check. Predicates and contexts among the arguments. Spans of minutes: lists in order, of which no two overlap or are adjacent; what they have in common; what they are together. Bits of masks. The summary of a set of minutes: its first and last one, its days of the week, its minutes of the day. Summaries of sets of minutes, minute by minute; authorities as plain data. What the authority of a list of predicates is, and of two authorities together; which authorities are valid. Layer 8: the pure code of its functions. Spans and authorities as values; common, Day. slices.SortFunc at spans, by the kit's contract: what a caller of it knows. merged: spans put together. Full, none, daily, restrict. closed: the only summary of its kind. closed, the walk. -/
import Derived.Test.YtmcfkmdhjihgmaaDoorPartD
import Init
import Derived.Test.YtmcfkmdhjihgmaaDoorPartC
import Derived.Shelf.SlSortCmp.WholeK
set_option linter.all false
namespace Go.PE
open Go
def Pred.wf (p : Pred) : Prop := (p.name.size : Int) ≤ 9223372036854775807 ∧ 0 ≤ p.mask ∧ p.mask < 18446744073709551616
def Ctx.wf (c : Ctx) : Prop := (c.holder.size : Int) ≤ 9223372036854775807
theorem Ctx.valid_iff (c : Ctx) : c.valid = true ↔ (0 ≤ c.zone ∧ c.zone ≤ 63 ∧ 0 ≤ c.line ∧ c.line ≤ 31 ∧ 0 ≤ c.minute ∧ c.minute ≤ 67108864 ∧ nameV c.holder = true) := by
  simp [Ctx.valid, and_assoc]
/-- bit n of a mask -/
def bit (m n : Int) : Bool := m / 2 ^ n.toNat % 2 == 1
theorem bit_fdiv {m n : Int} (hm : 0 ≤ m) (hn0 : 0 ≤ n) (hn : n ≤ 63) : m.fdiv (2 ^ min n.toNat 64) = m / 2 ^ n.toNat := by
  rw [show min n.toNat 64 = n.toNat by omega]
  rw [Int.fdiv_eq_ediv_of_nonneg _ (Int.le_of_lt (Int.pow_pos (by omega)))]
theorem bit_nonneg {m : Int} (hm : 0 ≤ m) (n : Nat) : 0 ≤ m / 2 ^ n := Int.ediv_nonneg hm (Int.le_of_lt (Int.pow_pos (by omega)))
theorem bit_le {m : Int} (hm : 0 ≤ m) (hm1 : m < 18446744073709551616) (n : Nat) : m / 2 ^ n < 18446744073709551616 := by
  have := Int.ediv_le_self (2 ^ n) hm
  omega
theorem bit_and {m n : Int} (hm : 0 ≤ m) (hm1 : m < 18446744073709551616) (hn0 : 0 ≤ n) (hn : n ≤ 63) : (bitsV .and .u64 (m.fdiv (2 ^ min n.toNat 64)) 1 == 1) = bit m n := by
  rw [bit_fdiv hm hn0 hn]
  have := and_mask (m := m / 2 ^ n.toNat) (n := 1) (bit_nonneg hm _) (bit_le hm hm1 _) (by omega)
  simp only [Int.pow_one, show (2 : Int) ^ 1 = 2 from rfl] at this
  rw [show (2 : Int) - 1 = 1 from rfl] at this
  rw [this]; rfl
theorem bit_rem {m n : Int} (hm : 0 ≤ m) (hn0 : 0 ≤ n) (hn : n ≤ 63) : ((m.fdiv (2 ^ min n.toNat 64)).tmod 2 == 1) = bit m n := by
  rw [bit_fdiv hm hn0 hn, Int.tmod_eq_emod_of_nonneg (bit_nonneg hm _)]; rfl
def dailyV (m fr to : Int) : Bool := if fr ≤ to then decide (fr ≤ m % 1440) && decide (m % 1440 ≤ to) else decide (fr ≤ m % 1440) || decide (m % 1440 ≤ to)
/-- does a predicate of kind k hold? -/
def rideV (k : Int) (p : Pred) (c : Ctx) : Bool :=
  if k = 1 then bit p.mask c.zone else if k = 2 then bit p.mask c.line else if k = 3 then bit p.mask (c.minute / 1440 % 7)
  else if k = 4 then decide (p.fr ≤ c.minute) && decide (c.minute ≤ p.to) else if k = 5 then dailyV c.minute p.fr p.to else if k = 6 then p.name == c.holder else true
def RideOK (P : Program) (f : Nat) (k : Int) : Prop := ∀ (p : Pred) (c : Ctx), p.wf → c.valid = true → ∀ (H : Nat → Option (List Value)) (nx : Nat),
    PCalls P f [c.v, p.v] H nx (fun _ => False) (fun r H' _ => r = .bool (rideV k p c) ∧ H' = H)
section
variable {P : Program} {f : Nat}
theorem zone_ok (hc : compFn P f = some (12, holds_ride_zoneC, [.t 4])) : RideOK P f 1 := by
  intro p c ⟨_, hm0, hm1⟩ hv H nx
  obtain ⟨h1, h2, h3, h4, h5, h6, h7⟩ := (Ctx.valid_iff c).1 hv
  refine PCalls_of hc (by simp) fun hw => ?_
  have hb := bit_and hm0 hm1 h1 h2
  simp [holds_ride_zoneC, Ctx.v, Ctx.cells, Pred.v, Pred.cells, h1, IntKind.bits]
  exact wF_own hw (by simp) (by simp [rideV, ← hb])
theorem line_ok (hc : compFn P f = some (12, holds_ride_lineC, [.t 4])) : RideOK P f 2 := by
  intro p c ⟨_, hm0, hm1⟩ hv H nx
  obtain ⟨h1, h2, h3, h4, h5, h6, h7⟩ := (Ctx.valid_iff c).1 hv
  refine PCalls_of hc (by simp) fun hw => ?_
  have hb := bit_and hm0 hm1 h3 (by omega)
  simp [holds_ride_lineC, Ctx.v, Ctx.cells, Pred.v, Pred.cells, h3, IntKind.bits]
  exact wF_own hw (by simp) (by simp [rideV, ← hb])
theorem days_eq {m : Int} (h : 0 ≤ m) (hm : m ≤ 67108864) : (IntKind.i64.wrap (m.tdiv 1440)).tmod 7 = m / 1440 % 7 ∧ IntKind.i64.wrap (m.tdiv 1440) = m / 1440 := by
  have e : m.tdiv 1440 = m / 1440 := Int.tdiv_eq_ediv_of_nonneg h
  rw [e, w64 (by omega) (by omega), Int.tmod_eq_emod_of_nonneg (by omega)]
  exact ⟨rfl, rfl⟩
theorem days_ok (hc : compFn P f = some (14, holds_ride_daysC, [.t 4])) : RideOK P f 3 := by
  intro p c ⟨_, hm0, hm1⟩ hv H nx
  obtain ⟨h1, h2, h3, h4, h5, h6, h7⟩ := (Ctx.valid_iff c).1 hv
  refine PCalls_of hc (by simp) fun hw => ?_
  have hd := (days_eq h5 h6).1
  have hd0 : 0 ≤ c.minute / 1440 % 7 := by omega
  have hb := bit_and hm0 hm1 hd0 (by omega)
  simp [holds_ride_daysC, Ctx.v, Ctx.cells, Pred.v, Pred.cells, hd, hd0, IntKind.bits]
  exact wF_own hw (by simp) (by simp [rideV, ← hb])
theorem time_ok (hc : compFn P f = some (17, holds_ride_timeC, [.t 4])) : RideOK P f 4 := by
  intro p c _ hv H nx
  refine PCalls_of hc (by simp) fun hw => ?_
  by_cases h : p.fr ≤ c.minute
  · simp [holds_ride_timeC, Ctx.v, Ctx.cells, Pred.v, Pred.cells, h]
    exact wF_own hw (by simp) (by simp [rideV, h])
  · simp [holds_ride_timeC, Ctx.v, Ctx.cells, Pred.v, Pred.cells, h]
    exact wF_own hw (by simp) (by simp [rideV, h])
theorem daily_ok (hc : compFn P f = some (34, holds_ride_dailyC, [.t 4])) : RideOK P f 5 := by
  intro p c _ hv H nx
  obtain ⟨h1, h2, h3, h4, h5, h6, h7⟩ := (Ctx.valid_iff c).1 hv
  have hm : c.minute.tmod 1440 = c.minute % 1440 := Int.tmod_eq_emod_of_nonneg h5
  refine PCalls_of hc (by simp) fun hw => ?_
  by_cases h : p.fr ≤ p.to
  · by_cases h' : p.fr ≤ c.minute % 1440
    · simp [holds_ride_dailyC, Ctx.v, Ctx.cells, Pred.v, Pred.cells, hm, h, h']
      exact wF_own hw (by simp) (by simp [rideV, dailyV, h, h'])
    · simp [holds_ride_dailyC, Ctx.v, Ctx.cells, Pred.v, Pred.cells, hm, h, h']
      exact wF_own hw (by simp) (by simp [rideV, dailyV, h, h'])
  · by_cases h' : p.fr ≤ c.minute % 1440
    · simp [holds_ride_dailyC, Ctx.v, Ctx.cells, Pred.v, Pred.cells, hm, h, h']
      exact wF_own hw (by simp) (by simp [rideV, dailyV, h, h'])
    · simp [holds_ride_dailyC, Ctx.v, Ctx.cells, Pred.v, Pred.cells, hm, h, h']
      exact wF_own hw (by simp) (by simp [rideV, dailyV, h, h'])
theorem holder_ok (hc : compFn P f = some (10, holds_ride_holderC, [.t 4])) : RideOK P f 6 := by
  intro p c _ hv H nx
  refine PCalls_of hc (by simp) fun hw => ?_
  simp [holds_ride_holderC, Ctx.v, Ctx.cells, Pred.v, Pred.cells]
  exact wF_own hw (by simp) (by simp [rideV])
theorem rides_ok (hc : compFn P f = some (5, holds_ride_ridesC, [.t 4])) : RideOK P f 7 := by
  intro p c _ hv H nx
  refine PCalls_of hc (by simp) fun hw => ?_
  simp [holds_ride_ridesC, Ctx.v, Ctx.cells, Pred.v, Pred.cells]
  exact wF_own hw (by simp) (by simp [rideV])
end
def holdsV (p : Pred) (c : Ctx) : Bool := p.valid && c.valid && rideV p.kind p c
def HoldsOK (P : Program) (f g : Nat) : Prop := ∀ (p : Pred) (c : Ctx), p.wf → c.wf → ∀ (H : Nat → Option (List Value)) (nx : Nat), H g = some bitsRow → g < nx →
    PCalls P f [p.v, c.v] H nx (fun _ => False) (fun r H' _ => r = .bool (holdsV p c) ∧ H' = H)
theorem Pred.valid_kind {p : Pred} (h : p.valid = true) : 1 ≤ p.kind ∧ p.kind ≤ 7 := by
  unfold Pred.valid at h
  repeat (split at h; · omega)
  cases h
theorem holds_ok {P : Program} {f g v cv z l d t da h r : Nat} (hc : compFn P f = some (37, holds_HoldsC v cv z l d t da h r, [.t 4])) (hv : PValidOK P v g) (hcv : CValidOK P cv g)
    (hz : RideOK P z 1) (hl : RideOK P l 2) (hd : RideOK P d 3) (ht : RideOK P t 4) (hda : RideOK P da 5) (hh : RideOK P h 6) (hr : RideOK P r 7)
    (oz : okFn P z = true) (ol : okFn P l = true) (od : okFn P d = true) (ot : okFn P t = true) (oda : okFn P da = true) (oh : okFn P h = true) (or : okFn P r = true) : HoldsOK P f g := by
  intro p c hp hcw H nx hg hgn
  have hg1 : ¬ g = nx := by omega
  have hg2 : ¬ g = nx + 1 := by omega
  have hpv : ag p.cells = p.v := rfl
  have hcv' : ag c.cells = c.v := rfl
  have hpl : p.cells.length = 6 := rfl
  have hcl : c.cells.length = 4 := rfl
  refine PCalls_of hc (by simp) fun hw => ?_
  obtain ⟨kind, mask, fr, to, name, num⟩ := p
  obtain ⟨zone, line, minute, holder⟩ := c
  simp [holds_HoldsC, Pred.v, Ctx.v, Pred.cells, Ctx.cells]
  refine wCall_eq (Q := fun r => r = .bool _) (hv ⟨kind, mask, fr, to, name, num⟩ hp.1 _ _ (by simp [hg, hg1, hg2]) (by simp; omega)) fun r1 nx1 hr1 hn1 => ?_
  subst hr1
  simp at hn1
  cases hb : (⟨kind, mask, fr, to, name, num⟩ : Pred).valid
  · simp [hb]
    exact wF_own hw (by simp) (by simp [holdsV, hb])
  · simp [hb]
    refine wCall_eq (Q := fun r => r = .bool _) (hcv ⟨zone, line, minute, holder⟩ hcw _ _ (by simp [hg, hg1, hg2]) (by simp; omega)) fun r2 nx2 hr2 hn2 => ?_
    subst hr2
    simp at hn2
    have e1 : ¬ nx = nx2 := by omega
    have e2 : ¬ nx + 1 = nx2 := by omega
    have e3 : ¬ nx = nx2 + 1 := by omega
    have e4 : nx ≤ nx2 := by omega
    have e5 : nx ≤ nx2 + 1 := by omega
    cases hb2 : (⟨zone, line, minute, holder⟩ : Ctx).valid
    · simp [hb2]
      exact wF_own hw (by simp) (by simp [holdsV, hb2])
    · have fin' : ∀ r, r = Value.bool (rideV kind ⟨kind, mask, fr, to, name, num⟩ ⟨zone, line, minute, holder⟩) →
          r = Value.bool (holdsV ⟨kind, mask, fr, to, name, num⟩ ⟨zone, line, minute, holder⟩) := by
        intro r h; rw [h]; simp [holdsV, hb, hb2]
      have hk := Pred.valid_kind hb
      simp only at hk
      rcases (by omega : kind = 1 ∨ kind = 2 ∨ kind = 3 ∨ kind = 4 ∨ kind = 5 ∨ kind = 6 ∨ kind = 7) with rfl | rfl | rfl | rfl | rfl | rfl | rfl
      · simp [hb2, e1, e2, e3, e4, e5, oz]
        refine wCall_eq (Q := fun r => r = .bool _) (hz _ ⟨zone, line, minute, holder⟩ hp hb2 _ _) fun r3 nx3 hr3 hn3 => ?_
        simp
        exact wF_own hw (by simp [e4, e5]) ⟨fin' _ (by rw [hr3]; rfl), rfl⟩
      · simp [hb2, e1, e2, e3, e4, e5, ol]
        refine wCall_eq (Q := fun r => r = .bool _) (hl _ ⟨zone, line, minute, holder⟩ hp hb2 _ _) fun r3 nx3 hr3 hn3 => ?_
        simp
        exact wF_own hw (by simp [e4, e5]) ⟨fin' _ (by rw [hr3]; rfl), rfl⟩
      · simp [hb2, e1, e2, e3, e4, e5, od]
        refine wCall_eq (Q := fun r => r = .bool _) (hd _ ⟨zone, line, minute, holder⟩ hp hb2 _ _) fun r3 nx3 hr3 hn3 => ?_
        simp
        exact wF_own hw (by simp [e4, e5]) ⟨fin' _ (by rw [hr3]; rfl), rfl⟩
      · simp [hb2, e1, e2, e3, e4, e5, ot]
        refine wCall_eq (Q := fun r => r = .bool _) (ht _ ⟨zone, line, minute, holder⟩ hp hb2 _ _) fun r3 nx3 hr3 hn3 => ?_
        simp
        exact wF_own hw (by simp [e4, e5]) ⟨fin' _ (by rw [hr3]; rfl), rfl⟩
      · simp [hb2, e1, e2, e3, e4, e5, oda]
        refine wCall_eq (Q := fun r => r = .bool _) (hda _ ⟨zone, line, minute, holder⟩ hp hb2 _ _) fun r3 nx3 hr3 hn3 => ?_
        simp
        exact wF_own hw (by simp [e4, e5]) ⟨fin' _ (by rw [hr3]; rfl), rfl⟩
      · simp [hb2, e1, e2, e3, e4, e5, oh]
        refine wCall_eq (Q := fun r => r = .bool _) (hh _ ⟨zone, line, minute, holder⟩ hp hb2 _ _) fun r3 nx3 hr3 hn3 => ?_
        simp
        exact wF_own hw (by simp [e4, e5]) ⟨fin' _ (by rw [hr3]; rfl), rfl⟩
      · simp [hb2, e1, e2, e3, e4, e5, or]
        refine wCall_eq (Q := fun r => r = .bool _) (hr _ ⟨zone, line, minute, holder⟩ hp hb2 _ _) fun r3 nx3 hr3 hn3 => ?_
        simp
        exact wF_own hw (by simp [e4, e5]) ⟨fin' _ (by rw [hr3]; rfl), rfl⟩
end Go.PE
namespace Go.PE
open Go
@[simp] theorem Ctx.len (c : Ctx) : c.cells.length = 4 := _root_.id rfl
@[simp] theorem Pred.len (p : Pred) : p.cells.length = 6 := _root_.id rfl
@[simp] theorem Ctx.dg1s (c : Ctx) : c.cells.map dg1 = c.cells := _root_.id rfl
@[simp] theorem Pred.dg1s (p : Pred) : p.cells.map dg1 = p.cells := _root_.id rfl
@[simp] theorem Ctx.take4 (c : Ctx) : c.cells.take 4 = c.cells := _root_.id rfl
@[simp] theorem Pred.take6 (p : Pred) : p.cells.take 6 = p.cells := _root_.id rfl
theorem Ctx.ag (c : Ctx) : PE.ag c.cells = c.v := rfl
theorem Pred.ag (p : Pred) : PE.ag p.cells = p.v := rfl
def RHoldsOK (P : Program) (f : Nat) : Prop := ∀ (p : Pred) (c : Ctx), p.wf → c.wf → ∀ (H : Nat → Option (List Value)) (nx : Nat),
    PCalls P f [p.v, c.v] H nx (fun _ => False) (fun r H' _ => r = .bool (holdsV p c) ∧ H' = H)
theorem rholds_ok {P : Program} {f v cv : Nat} (hc : compFn P f = some (99, ref06_HoldsC v cv, [.t 4])) (hv : RValidOK P v) (hcv : RCValidOK P cv) : RHoldsOK P f := by
  intro p c hp hcw H nx
  refine PCalls_of hc (by simp) fun hw => ?_
  obtain ⟨kind, mask, fr, to, name, num⟩ := p
  obtain ⟨zone, line, minute, holder⟩ := c
  have hm0 : 0 ≤ mask := hp.2.1
  have hm1 : mask < 18446744073709551616 := hp.2.2
  simp [ref06_HoldsC, Pred.v, Ctx.v, Pred.cells, Ctx.cells]
  refine wCall_eq (Q := fun r => r = .bool _) (hv ⟨kind, mask, fr, to, name, num⟩ hp.1 hm0 _ _) fun r1 nx1 hr1 hn1 => ?_
  subst hr1
  simp at hn1
  cases hb : (⟨kind, mask, fr, to, name, num⟩ : Pred).valid
  · simp [hb]
    exact wF_own hw (by simp) (by simp [holdsV, hb])
  · simp [hb]
    refine wCall_eq (Q := fun r => r = .bool _) (hcv ⟨zone, line, minute, holder⟩ hcw _ _) fun r2 nx2 hr2 hn2 => ?_
    subst hr2
    simp at hn2
    cases hb2 : (⟨zone, line, minute, holder⟩ : Ctx).valid
    · simp [hb2]
      exact wF_own hw (by simp) (by simp [holdsV, hb2])
    · have fin' : ∀ r, r = Value.bool (rideV kind ⟨kind, mask, fr, to, name, num⟩ ⟨zone, line, minute, holder⟩) →
          r = Value.bool (holdsV ⟨kind, mask, fr, to, name, num⟩ ⟨zone, line, minute, holder⟩) := by
        intro r h; rw [h]; simp [holdsV, hb, hb2]
      have hk := Pred.valid_kind hb
      simp only at hk
      obtain ⟨h1, h2, h3, h4, h5, h6, h7⟩ := (Ctx.valid_iff _).1 hb2
      simp only at h1 h2 h3 h4 h5 h6 h7
      rcases (by omega : kind = 1 ∨ kind = 2 ∨ kind = 3 ∨ kind = 4 ∨ kind = 5 ∨ kind = 6 ∨ kind = 7) with rfl | rfl | rfl | rfl | rfl | rfl | rfl
      · have hz : IntKind.u64.wrap zone = zone := by rw [IntKind.wrap_u64]; omega
        have hbt := bit_rem hm0 h1 h2
        simp [hb2, hz, h1, IntKind.bits]
        exact wF_own hw (by simp) ⟨fin' _ (by simp [rideV, ← hbt]), rfl⟩
      · have hz : IntKind.u64.wrap line = line := by rw [IntKind.wrap_u64]; omega
        have hbt := bit_rem hm0 h3 (by omega)
        simp [hb2, hz, h3, IntKind.bits]
        exact wF_own hw (by simp) ⟨fin' _ (by simp [rideV, ← hbt]), rfl⟩
      · have hd := (days_eq h5 h6).1
        have hd0 : 0 ≤ minute / 1440 % 7 := by omega
        have hz : IntKind.u64.wrap (minute / 1440 % 7) = minute / 1440 % 7 := by rw [IntKind.wrap_u64]; omega
        have hbt := bit_rem hm0 hd0 (by omega)
        simp [hb2, hd, hz, hd0, IntKind.bits]
        exact wF_own hw (by simp) ⟨fin' _ (by simp [rideV, ← hbt]), rfl⟩
      · by_cases c1 : fr ≤ minute
        · simp [hb2, c1]
          exact wF_own hw (by simp) ⟨fin' _ (by simp [rideV, c1]), rfl⟩
        · simp [hb2, c1]
          exact wF_own hw (by simp) ⟨fin' _ (by simp [rideV, c1]), rfl⟩
      · have hmm : minute.tmod 1440 = minute % 1440 := Int.tmod_eq_emod_of_nonneg h5
        by_cases c1 : fr ≤ to
        · by_cases c2 : fr ≤ minute % 1440
          · simp [hb2, hmm, c1, c2]
            exact wF_own hw (by simp) ⟨fin' _ (by simp [rideV, dailyV, c1, c2]), rfl⟩
          · simp [hb2, hmm, c1, c2]
            exact wF_own hw (by simp) ⟨fin' _ (by simp [rideV, dailyV, c1, c2]), rfl⟩
        · by_cases c2 : fr ≤ minute % 1440
          · simp [hb2, hmm, c1, c2]
            exact wF_own hw (by simp) ⟨fin' _ (by simp [rideV, dailyV, c1, c2]), rfl⟩
          · simp [hb2, hmm, c1, c2]
            exact wF_own hw (by simp) ⟨fin' _ (by simp [rideV, dailyV, c1, c2]), rfl⟩
      · simp [hb2]
        exact wF_own hw (by simp) ⟨fin' _ (by simp [rideV, Bool.beq_comm]), rfl⟩
      · simp [hb2]
        exact wF_own hw (by simp) ⟨fin' _ (by simp [rideV]), rfl⟩
/-- the first that does not hold -/
def allV : List Pred → Ctx → Int → Int × Bool
  | [], _, _ => (0, true)
  | p :: r, c, i => if holdsV p c then allV r c (i + 1) else (i, false)
def allP (l : List Pred) (c : Ctx) : Value := tup [.int .i64 (allV l c 0).1, .bool (allV l c 0).2]
theorem allV_step {l : List Pred} {c : Ctx} {i : Nat} (hi : i < l.length) : allV (l.drop i) c i = if holdsV l[i] c then allV (l.drop (i + 1)) c (i + 1 : Nat) else ((i : Int), false) := by
  rw [List.drop_eq_getElem_cons hi]
  simp [allV]
def AllOK (P : Program) (f g : Nat) : Prop := ∀ (l : List Pred) (c : Ctx), (∀ p ∈ l, p.wf) → c.wf → l.length ≤ maxLen → ∀ (H : Nat → Option (List Value)) (nx : Nat), H g = some bitsRow → g < nx →
    PCalls P f [deep (l.map Pred.v), c.v] H nx (fun _ => False) (fun r H' _ => r = allP l c ∧ H' = H)
theorem elem_pred {l : List Pred} {n : Int} (h0 : 0 ≤ n) (hn : n.toNat < l.length) : elemAt (l.map Pred.v) n 6 = some (dptr 0 l[n.toNat].cells) := elemAt_map h0 hn rfl rfl
theorem all_ok {P : Program} {f g h : Nat} (hc : compFn P f = some (21, holds_AllC h, [.t 4, .t 5])) (hh : HoldsOK P h g) : AllOK P f g := by
  intro l c hl hcw hlen H nx hg hgn
  have hg1 : ¬ g = nx := by omega
  refine PCalls_of hc (by simp) fun hw => ?_
  have hmx : (maxLen : Int) = 9223372036854775807 := rfl
  simp [holds_AllC, Ctx.v]
  refine wpc_loop _ _ _ _ _ _ (fun s => ∃ i : Nat, i ≤ l.length ∧ s.t 3 = ptr nx 0 ∧ s.t 8 = deep (l.map Pred.v) ∧ s.t 9 = .int .i64 l.length ∧ s.t 10 = .int .i64 i ∧ s.H = upd H nx (some c.cells) ∧ nx + 1 ≤ s.nx ∧ allV l c 0 = allV (l.drop i) c i)
        (fun s => match s.t 10 with | .int _ i => (l.length - i).toNat | _ => 0) _ ⟨0, by omega, by simp, by simp, by simp, by simp, rfl, by simp, by simp⟩ ?_
  rintro ⟨t, H', nx'⟩ ⟨i, hi1, e3, e8, e9, e10, rfl, hnx, hall⟩
  simp only at e3 e8 e9 e10 hnx
  simp [e3, e8, e9, e10]
  refine wB_of (fun hlt => ?_) (fun hlt => ?_)
  · simp at hlt
    have he := elem_pred (l := l) (n := (i : Int)) (by omega) (by simpa using hlt)
    simp at he
    have hne : ¬ nx = nx' := by omega
    have hg2 : ¬ g = nx' := by omega
    have hnn : nx ≤ nx' := by omega
    simp [e3, e8, e9, e10, he, hne, hnn]
    refine wCall_eq (Q := fun r => r = .bool _) (hh l[i] c (hl _ (List.getElem_mem _)) hcw _ _ (by simp [hg, hg1, hg2]) (by simp; omega)) fun r1 nx1 hr1 hn1 => ?_
    subst hr1
    simp at hn1
    have hst := allV_step (c := c) hlt
    cases hb : holdsV l[i] c
    · simp [hb]
      refine wF_own hw (by simp [hnn]) ⟨?_, rfl⟩
      simp [allP, hall, hst, hb]
    · simp [hb, e10]
      rw [w64 (x := (i : Int) + 1) (by omega) (by omega)]
      refine kLoop_nrm _ _ _ (upd H nx (some c.cells)) ?_ ⟨i + 1, by omega, by simp [e3], by simp [e8], by simp [e9], by simp, rfl, by simp; omega, ?_⟩ (by simp; omega)
      · exact (Sub_refl _ _).upd hnn (by simp [Ne.symm hne]; exact hw _ hnn)
      · rw [hall, hst, hb]; rfl
  · simp at hlt
    refine wF_own hw (by simp) ⟨?_, rfl⟩
    rw [List.drop_eq_nil_of_le (by omega)] at hall
    simp [allP, hall, allV]
def RAllOK (P : Program) (f : Nat) : Prop := ∀ (l : List Pred) (c : Ctx), (∀ p ∈ l, p.wf) → c.wf → l.length ≤ maxLen → ∀ (H : Nat → Option (List Value)) (nx : Nat),
    PCalls P f [deep (l.map Pred.v), c.v] H nx (fun _ => False) (fun r H' _ => r = allP l c ∧ H' = H)
theorem rall_ok {P : Program} {f h : Nat} (hc : compFn P f = some (21, ref06_AllC h, [.t 4, .t 5])) (hh : RHoldsOK P h) : RAllOK P f := by
  intro l c hl hcw hlen H nx
  refine PCalls_of hc (by simp) fun hw => ?_
  have hmx : (maxLen : Int) = 9223372036854775807 := rfl
  simp [ref06_AllC, Ctx.v]
  refine wpc_loop _ _ _ _ _ _ (fun s => ∃ i : Nat, i ≤ l.length ∧ s.t 0 = deep (l.map Pred.v) ∧ s.t 3 = ptr nx 0 ∧ s.t 6 = .int .i64 i ∧ s.H = upd H nx (some c.cells) ∧ nx + 1 ≤ s.nx ∧ allV l c 0 = allV (l.drop i) c i)
        (fun s => match s.t 6 with | .int _ i => (l.length - i).toNat | _ => 0) _ ⟨0, by omega, by simp, by simp, by simp, rfl, by simp, by simp⟩ ?_
  rintro ⟨t, H', nx'⟩ ⟨i, hi1, e0, e3, e6, rfl, hnx, hall⟩
  simp only at e0 e3 e6 hnx
  simp [e0, e3, e6]
  refine wB_of (fun hlt => ?_) (fun hlt => ?_)
  · simp at hlt
    have he := elem_pred (l := l) (n := (i : Int)) (by omega) (by simpa using hlt)
    simp at he
    simp [e0, e3, e6, he]
    refine wqCall_of (hh l[i] c (hl _ (List.getElem_mem _)) hcw _ _) rfl (fun _ _ _ h => h.1) ?_
    have hst := allV_step (c := c) hlt
    cases hb : holdsV l[i] c
    · simp [hb, e6]
      refine wF_own hw (by simp) ⟨?_, rfl⟩
      simp [allP, hall, hst, hb]
    · simp [hb, e6]
      rw [w64 (x := (i : Int) + 1) (by omega) (by omega)]
      refine kLoop_nrm _ _ _ (upd H nx (some c.cells)) (Sub_refl _ _) ⟨i + 1, by omega, by simp [e0], by simp [e3], by simp, rfl, by simp; omega, ?_⟩ (by simp; omega)
      rw [hall, hst, hb]; rfl
  · simp at hlt
    refine wF_own hw (by simp) ⟨?_, rfl⟩
    rw [List.drop_eq_nil_of_le (by omega)] at hall
    simp [allP, hall, allV]
end Go.PE
namespace Go.PE
open Go
/-- a predicate of the deck's -/
def isPred (rides : Bool) (v : Value) : Prop := ∃ q : Pred, v = q.v ∧ q.valid = true ∧ q.wf ∧ (rides = false → q.kind ≠ 7)
theorem names_good {b : ByteArray} (h : b ∈ names) : nameV b = true := by
  simp only [names, List.mem_cons, List.not_mem_nil, or_false] at h
  rcases h with rfl | rfl | rfl | rfl | rfl | rfl | rfl | rfl <;> decide +kernel
theorem names_size {b : ByteArray} (h : b ∈ names) : b.size ≤ 16 := by
  have := names_good h
  simp only [nameV, Bool.and_eq_true, decide_eq_true_eq] at this
  omega
theorem maskV_of {m : Int} {n : Nat} (h : 0 < m) (h1 : m < 2 ^ n) (hn : n ≤ 64) : maskV m n = true := by
  by_cases e : n = 64
  · subst e; rw [show ((64 : Nat) : Int) = 64 from rfl, maskV_64]; simp; omega
  · rw [maskV_lt (by omega) (by omega)]; simp [h1]; omega
theorem maskV_isMask {m n : Int} (h0 : 1 ≤ n) (hn : n ≤ 64) (h : 0 < m) (h1 : m < 2 ^ n.toNat) : maskV m n = true := by
  have := maskV_of (n := n.toNat) h h1 (by omega)
  rwa [show ((n.toNat : Nat) : Int) = n by omega] at this
theorem mask_lt64 {m n : Int} (hn : n ≤ 64) (h1 : m < 2 ^ n.toNat) : m < 18446744073709551616 := by
  have h2 : (2 : Nat) ^ n.toNat ≤ 2 ^ 64 := Nat.pow_le_pow_right (by omega) (by omega)
  have e2 : (2 : Int) ^ n.toNat = ((2 ^ n.toNat : Nat) : Int) := by simp
  rw [e2] at h1
  omega
theorem predicate_w {P : Program} {f r m mi nx_ n u : Nat} (hc : compFn P f = some (81, made_Deck_PredicateC r m mi nx_ n u, [.cA 4 6])) (hn : NextW P nx_)
    (hr : ∀ lo hi : Int, 0 ≤ lo → lo ≤ hi → hi < 4611686018427387904 → Draws P r [.int .i64 lo, .int .i64 hi] (isI lo hi)) (hm : ∀ n : Int, 1 ≤ n → n ≤ 64 → Draws P m [.int .i64 n] (isMask n))
    (hmi : Draws P mi [] (isI 0 67108864)) (hN : Draws P n [] isN) (hu : ∀ n : Int, 2 ≤ n → n < 4611686018427387903 → Draws P u [.int .i64 n] (isI 0 n)) (b : Bool) : Draws P f [.bool b] (isPred b) := by
  intro k l at_ ha hl H nx hk
  refine PCalls_of hc (by simp) fun hw => ?_
  have hkn : k < nx := by
    rcases Nat.lt_or_ge k nx with h | h
    · exact h
    · have := hw k h; rw [hk] at this; cases this
  have d1 : ¬ k = nx := by omega
  simp [made_Deck_PredicateC]
  refine wCall_drawL (hr 1 7 (by omega) (by omega) (by omega)) ha hl (by simp [hk, d1]) (.inr rfl) fun p1 at1 n1 hp1 ha1 hn1 => ?_
  obtain ⟨kind, rfl, hk1, hk7⟩ := hp1
  simp at hn1
  have d2 : ¬ k = n1 := by omega
  have d3 : ¬ nx = n1 := by omega
  have d4 : nx ≤ n1 := by omega
  have d5 : ¬ nx = k := by omega
  have d6 : ¬ n1 = k := by omega
  have d7 : ¬ n1 = nx := by omega
  have tail : ∀ (H' : Nat → Option (List Value)) (nx' : Nat) (at' : Int) (q : Pred), 0 ≤ at' → H' k = some (dk l at') → (∀ j, j < nx → j ≠ k → H' j = H j) → q.valid = true → q.wf → (b = false → q.kind ≠ 7) →
      wF (some [q.v]) nx (fun p H' _ => isPred b p ∧ Drew H k l H') H' nx' := by
    intro H' nx' at' q h0 ek hoth hv hwf hb
    exact wF_sub ((own_k (r := some (dk l at')) ek hoth).sub (none_k hw hkn)) ⟨⟨q, rfl, hv, hwf, hb⟩, at', h0, rfl⟩
  by_cases h1 : kind = 1
  · subst h1
    simp [d1, d2, d3, d4, d5, d6, d7]
    refine wCall_drawL (hm 64 (by omega) (by omega)) ha1 hl (by simp [d1, d2, d5, d6]) (.inr rfl) fun p2 at2 n2 hp2 ha2 hn2 => ?_
    obtain ⟨v, rfl, hv0, hv1⟩ := hp2
    simp [d1, d2, d3, d4, d5, d6, d7]
    refine tail _ _ at2 ⟨1, v, 0, 0, ⟨#[]⟩, 0⟩ ha2 (by simp [d1, d2, d5, d6]) (fun j hj hjk => ?_) (by simp [Pred.valid, maskV_isMask (n := 64) (by omega) (by omega) hv0 hv1]) ⟨by simp, Int.le_of_lt hv0, mask_lt64 (by omega) hv1⟩ (by simp)
    simp [show ¬ j = nx by omega, show ¬ j = n1 by omega, hjk]
  by_cases h2 : kind = 2
  · subst h2
    simp [d1, d2, d3, d4, d5, d6, d7]
    refine wCall_drawL (hm 32 (by omega) (by omega)) ha1 hl (by simp [d1, d2, d5, d6]) (.inr rfl) fun p2 at2 n2 hp2 ha2 hn2 => ?_
    obtain ⟨v, rfl, hv0, hv1⟩ := hp2
    simp [d1, d2, d3, d4, d5, d6, d7]
    refine tail _ _ at2 ⟨2, v, 0, 0, ⟨#[]⟩, 0⟩ ha2 (by simp [d1, d2, d5, d6]) (fun j hj hjk => ?_) (by simp [Pred.valid, maskV_isMask (n := 32) (by omega) (by omega) hv0 hv1]) ⟨by simp, Int.le_of_lt hv0, mask_lt64 (by omega) hv1⟩ (by simp)
    simp [show ¬ j = nx by omega, show ¬ j = n1 by omega, hjk]
  by_cases h3 : kind = 3
  · subst h3
    simp [d1, d2, d3, d4, d5, d6, d7]
    refine wCall_drawL (hm 7 (by omega) (by omega)) ha1 hl (by simp [d1, d2, d5, d6]) (.inr rfl) fun p2 at2 n2 hp2 ha2 hn2 => ?_
    obtain ⟨v, rfl, hv0, hv1⟩ := hp2
    simp [d1, d2, d3, d4, d5, d6, d7]
    refine tail _ _ at2 ⟨3, v, 0, 0, ⟨#[]⟩, 0⟩ ha2 (by simp [d1, d2, d5, d6]) (fun j hj hjk => ?_) (by simp [Pred.valid, maskV_isMask (n := 7) (by omega) (by omega) hv0 hv1]) ⟨by simp, Int.le_of_lt hv0, mask_lt64 (by omega) hv1⟩ (by simp)
    simp [show ¬ j = nx by omega, show ¬ j = n1 by omega, hjk]
  by_cases h4 : kind = 4
  · subst h4
    simp [d1, d2, d3, d4, d5, d6, d7]
    refine wCall_drawL hmi ha1 hl (by simp [d1, d2, d5, d6]) (.inr rfl) fun p2 at2 n2 hp2 ha2 hn2 => ?_
    obtain ⟨v, rfl, hv0, hv1⟩ := hp2
    simp [d1, d2, d3, d4, d5, d6, d7]
    refine wCall_drawL hmi ha2 hl (by simp [d1, d2, d5, d6]) (.inr rfl) fun p3 at3 n3 hp3 ha3 hn3 => ?_
    obtain ⟨w, rfl, hw0, hw1⟩ := hp3
    simp [d1, d2, d3, d4, d5, d6, d7]
    refine tail _ _ at3 ⟨4, 0, if w < v then w else v, if v < w then w else v, ⟨#[]⟩, 0⟩ ha3 (by simp [d1, d2, d5, d6]) (fun j hj hjk => ?_) ?_ ⟨by simp, by simp, by simp⟩ (by simp)
    · simp [show ¬ j = nx by omega, show ¬ j = n1 by omega, hjk]
    · simp [Pred.valid]; split <;> split <;> omega
  by_cases h5 : kind = 5
  · subst h5
    simp [d1, d2, d3, d4, d5, d6, d7]
    refine wCall_drawL (hn 1440 (by omega) (by omega)) ha1 hl (by simp [d1, d2, d5, d6]) (.inr rfl) fun p2 at2 n2 hp2 ha2 hn2 => ?_
    obtain ⟨v, rfl, hv0, hv1⟩ := hp2
    simp [d1, d2, d3, d4, d5, d6, d7]
    refine wCall_drawL (hn 1440 (by omega) (by omega)) ha2 hl (by simp [d1, d2, d5, d6]) (.inr rfl) fun p3 at3 n3 hp3 ha3 hn3 => ?_
    obtain ⟨w, rfl, hw0, hw1⟩ := hp3
    simp [d1, d2, d3, d4, d5, d6, d7]
    refine wCall_drawL (hn 3 (by omega) (by omega)) ha3 hl (by simp [d1, d2, d5, d6]) (.inr rfl) fun p4 at4 n4 hp4 ha4 hn4 => ?_
    obtain ⟨x, rfl, hx0, hx1⟩ := hp4
    simp [d1, d2, d3, d4, d5, d6, d7]
    refine wB_of (fun hx => ?_) (fun hx => ?_)
    · refine ⟨?_, ?_⟩
      all_goals
        refine wCall_drawL (hn 3 (by omega) (by omega)) ha4 hl (by simp [d1, d2, d5, d6]) (.inr rfl) fun p5 at5 n5 hp5 ha5 hn5 => ?_
        obtain ⟨y, rfl, hy0, hy1⟩ := hp5
        simp [d1, d2, d3, d4, d5, d6, d7]
        rw [w64 (x := v + y) (by omega) (by omega), w64 (x := v + y + 1440) (by omega) (by omega), w64 (x := v + y + 1440 - 1) (by omega) (by omega), Int.tmod_eq_emod_of_nonneg (by omega)]
        refine tail _ _ at5 ⟨5, 0, v, (v + y + 1440 - 1) % 1440, ⟨#[]⟩, 0⟩ ha5 (by simp [d1, d2, d5, d6]) (fun j hj hjk => ?_) ?_ ⟨by simp, by simp, by simp⟩ (by simp)
        · simp [show ¬ j = nx by omega, show ¬ j = n1 by omega, hjk]
        · simp [Pred.valid]; omega
    · refine tail _ _ at4 ⟨5, 0, v, w, ⟨#[]⟩, 0⟩ ha4 (by simp [d1, d2, d5, d6]) (fun j hj hjk => ?_) ?_ ⟨by simp, by simp, by simp⟩ (by simp)
      · simp [show ¬ j = nx by omega, show ¬ j = n1 by omega, hjk]
      · simp [Pred.valid]; omega
  by_cases h6 : kind = 6
  · subst h6
    simp [d1, d2, d3, d4, d5, d6, d7]
    refine wCall_drawL hN ha1 hl (by simp [d1, d2, d5, d6]) (.inr rfl) fun p2 at2 n2 hp2 ha2 hn2 => ?_
    obtain ⟨v, hv, rfl⟩ := hp2
    simp [d1, d2, d3, d4, d5, d6, d7]
    refine tail _ _ at2 ⟨6, 0, 0, 0, v, 0⟩ ha2 (by simp [d1, d2, d5, d6]) (fun j hj hjk => ?_) (by simp [Pred.valid, names_good hv]) ⟨by have := names_size hv; simp only; omega, by simp, by simp⟩ (by simp)
    simp [show ¬ j = nx by omega, show ¬ j = n1 by omega, hjk]
  · obtain rfl : kind = 7 := by omega
    cases b
    · simp [d1, d2, d3, d4, d5, d6, d7]
      refine wCall_drawL hmi ha1 hl (by simp [d1, d2, d5, d6]) (.inr rfl) fun p2 at2 n2 hp2 ha2 hn2 => ?_
      obtain ⟨v, rfl, hv0, hv1⟩ := hp2
      simp [d1, d2, d3, d4, d5, d6, d7]
      refine wCall_drawL hmi ha2 hl (by simp [d1, d2, d5, d6]) (.inr rfl) fun p3 at3 n3 hp3 ha3 hn3 => ?_
      obtain ⟨w, rfl, hw0, hw1⟩ := hp3
      simp [d1, d2, d3, d4, d5, d6, d7]
      refine tail _ _ at3 ⟨4, 0, if w < v then w else v, if v < w then w else v, ⟨#[]⟩, 0⟩ ha3 (by simp [d1, d2, d5, d6]) (fun j hj hjk => ?_) ?_ ⟨by simp, by simp, by simp⟩ (by simp)
      · simp [show ¬ j = nx by omega, show ¬ j = n1 by omega, hjk]
      · simp [Pred.valid]; split <;> split <;> omega
    · simp [d1, d2, d3, d4, d5, d6, d7]
      refine wCall_drawL (hu 1000000 (by omega) (by omega)) ha1 hl (by simp [d1, d2, d5, d6]) (.inr rfl) fun p2 at2 n2 hp2 ha2 hn2 => ?_
      obtain ⟨v, rfl, hv0, hv1⟩ := hp2
      simp [d1, d2, d3, d4, d5, d6, d7]
      refine tail _ _ at2 ⟨7, 0, 0, 0, ⟨#[]⟩, v⟩ ha2 (by simp [d1, d2, d5, d6]) (fun j hj hjk => ?_) (by simp [Pred.valid, hv0, hv1]) ⟨by simp, by simp, by simp⟩ (by simp)
      simp [show ¬ j = nx by omega, show ¬ j = n1 by omega, hjk]
end Go.PE
namespace Go.PE
open Go
@[simp] theorem Pred.lcv (p : Pred) : lc p.v = p.cells := _root_.id rfl
@[simp] theorem Pred.cellsOf (p : Pred) : PE.cellsOf p.v = some p.cells := _root_.id rfl
@[simp] theorem Pred.dgv (p : Pred) : dg p.v = p.v := _root_.id rfl
@[simp] theorem Pred.dgTv (p : Pred) : dgT p.v = p.v := _root_.id rfl
@[simp] theorem Ctx.dgv (p : Ctx) : dg p.v = p.v := _root_.id rfl
@[simp] theorem Ctx.cellsOf (p : Ctx) : PE.cellsOf p.v = some p.cells := _root_.id rfl
def GoodPred (b : Bool) (q : Pred) : Prop := q.valid = true ∧ q.wf ∧ (b = false → q.kind ≠ 7)
def isPreds (e : Nat) (n : Int) (b : Bool) (v : Value) : Prop := ∃ qs : List Pred, v = lin e (qs.map Pred.v) ∧ (qs.length : Int) ≤ n ∧ ∀ q ∈ qs, GoodPred b q
theorem predicates_w {P : Program} {f e nx_ p : Nat} (hc : compFn P f = some (24, made_Deck_PredicatesC e nx_ p, [.t 6])) (hn : NextW P nx_) (hp : ∀ b, Draws P p [.bool b] (isPred b)) (n : Int) (b : Bool) (h0 : 0 ≤ n) (h1 : n ≤ 1000000) :
    Draws P f [.int .i64 n, .bool b] (isPreds e n b) := by
  intro k l at_ ha hl H nx hk
  refine PCalls_of hc (by simp) fun hw => ?_
  have hkn : k < nx := by
    rcases Nat.lt_or_ge k nx with h | h
    · exact h
    · have := hw k h; rw [hk] at this; cases this
  simp [made_Deck_PredicatesC]
  rw [w64 (x := n + 1) (by omega) (by omega)]
  refine wCall_drawL (hn (n + 1) (by omega) (by omega)) ha hl (by simp [hk]) (.inr rfl) fun p1 at1 n1 hp1 ha1 hn1 => ?_
  obtain ⟨m, rfl, hm0, hm1⟩ := hp1
  simp at hn1
  simp
  refine wpc_loop _ _ _ _ _ _ (fun s => ∃ (qs : List Pred) (at' : Int), 0 ≤ at' ∧ s.t 0 = ptr k 0 ∧ s.t 2 = .bool b ∧ s.t 7 = lin e (qs.map Pred.v) ∧ (∃ j : Int, s.t 8 = .int .i64 j ∧ 0 ≤ j ∧ j + qs.length ≤ n) ∧ (∀ q ∈ qs, GoodPred b q) ∧ s.H = upd H k (some (dk l at')) ∧ nx ≤ s.nx)
    (fun s => match s.t 8 with | .int _ i => i.toNat | _ => 0) _ ⟨[], at1, ha1, by simp, by simp, by simp, ⟨m, by simp, by omega, by simp; omega⟩, by simp, rfl, by simpa using hn1⟩ ?_
  rintro ⟨t, H', nx'⟩ ⟨qs, at', ha', e0, e2, e7, ⟨j, e8, hj0, hj1⟩, hq, rfl, hnx⟩
  simp only at e0 e2 e7 e8 hnx
  simp [e0, e2, e7, e8]
  refine wB_of (fun hlt => ?_) (fun hlt => ?_)
  · simp at hlt
    refine wCall_drawL (hp b) ha' hl (by simp) (.inr rfl) fun p2 at2 n2 hp2 ha2 hn2 => ?_
    obtain ⟨q, rfl, hv, hwf, hb⟩ := hp2
    simp [e0, e2, e7, e8, maxLen]
    refine ⟨by omega, by omega, ?_⟩
    rw [w64 (x := j - 1) (by omega) (by omega)]
    refine kLoop_nrm _ _ _ (upd H k (some (dk l at2))) (Sub_refl _ _) ⟨qs ++ [q], at2, ha2, by simp [e0], by simp [e2], by simp, ⟨j - 1, by simp, by omega, by simp; omega⟩, ?_, rfl, by simp at hn2; simp; omega⟩ (by simp; omega)
    intro x hx
    simp at hx
    rcases hx with hx | rfl
    · exact hq x hx
    · exact ⟨hv, hwf, hb⟩
  · simp at hlt
    refine wF_of ⟨⟨qs, by simp, by omega, hq⟩, at', ha', rfl⟩
def LawOK (P : Program) (f g : Nat) : Prop := ∀ (H : Nat → Option (List Value)) (nx : Nat), H g = some bitsRow → g < nx → PCalls P f [] H nx (fun _ => False) (fun r H' _ => r = .bool true ∧ H' = H)
theorem awake7_ok {P : Program} {f g h : Nat} (hc : compFn P f = some (12, law07_awakeC h, [.t 0])) (hh : HoldsOK P h g) : LawOK P f g := by
  intro H nx hg hgn
  refine PCalls_of hc (by simp) fun hw => ?_
  have hg1 : ¬ g = nx := by omega
  simp [law07_awakeC]
  have h1 : holdsV ⟨5, 0, 1380, 300, ⟨#[]⟩, 0⟩ ⟨0, 0, 10, ⟨#[97]⟩⟩ = true := by decide +kernel
  have h2 : holdsV ⟨5, 0, 1380, 300, ⟨#[]⟩, 0⟩ ⟨0, 0, 600, ⟨#[97]⟩⟩ = false := by decide +kernel
  refine wCall_eq (Q := fun r => r = .bool _) (hh ⟨5, 0, 1380, 300, ⟨#[]⟩, 0⟩ ⟨0, 0, 10, ⟨#[97]⟩⟩ ⟨by simp, by simp, by simp⟩ (by unfold Ctx.wf; decide +kernel) _ _ (by simp [hg, hg1]) (by simp; omega)) fun r1 n1 hr1 hn1 => ?_
  subst hr1
  simp [h1]
  refine wCall_eq (Q := fun r => r = .bool _) (hh ⟨5, 0, 1380, 300, ⟨#[]⟩, 0⟩ ⟨0, 0, 600, ⟨#[97]⟩⟩ ⟨by simp, by simp, by simp⟩ (by unfold Ctx.wf; decide +kernel) _ _ (by simp [hg, hg1]) (by simp at hn1; simp; omega)) fun r1 n1 hr1 hn1 => ?_
  subst hr1
  simp [h2]
  exact wF_own hw (by simp) (by simp)
/-- the deck's lists -/
def dl (l : List Int) : Value := deep (l.map (.int .i64))
def NewOK (P : Program) (f : Nat) : Prop := ∀ (l : List Int) (H : Nat → Option (List Value)) (nx : Nat), PCalls P f [deep (l.map (.int .i64))] H nx (fun _ => False) (fun p H' nx' => p = ptr nx 0 ∧ H' = upd H nx (some (dk l 0)) ∧ nx' = nx + 1)
theorem isCtx_ok {v : Value} (h : isCtx v) : ∃ c : Ctx, v = c.v ∧ c.valid = true ∧ c.wf := by
  obtain ⟨z, l, m, b, rfl, h1, h2, h3, h4, h5, h6, h7⟩ := h
  refine ⟨⟨z, l, m, b⟩, rfl, by simp [Ctx.valid, h1, h2, h3, h4, h5, h6, names_good h7], ?_⟩
  have := names_size h7
  unfold Ctx.wf; simp only; omega
end Go.PE
namespace Go.PE
open Go
theorem max_len : (maxLen : Int) = 9223372036854775807 := rfl
theorem pred_of {P : Program} {t : Nat} (h : ∃ fs, P.underlying t = some (.struct fs)) (hf : flat P 3 t = some [.int .i64, .int .u64, .int .i64, .int .i64, .str, .int .i64]) {cs : List Value} (hp : PTy P t cs) : ∃ q : Pred, toV P t cs = q.v ∧ q.wf := by
  obtain ⟨fs, h⟩ := h
  obtain ⟨v1, w1, rfl, ⟨k, rfl, _, _⟩, k1⟩ := fk_cons (flat_ok 3 t _ cs hf hp)
  obtain ⟨v2, w2, rfl, ⟨m, rfl, hm0, hm1⟩, k2⟩ := fk_cons k1
  obtain ⟨v3, w3, rfl, ⟨fr, rfl, _, _⟩, k3⟩ := fk_cons k2
  obtain ⟨v4, w4, rfl, ⟨to, rfl, _, _⟩, k4⟩ := fk_cons k3
  obtain ⟨v5, w5, rfl, ⟨s, rfl, hs⟩, k5⟩ := fk_cons k4
  obtain ⟨v6, w6, rfl, ⟨n, rfl, _, _⟩, k6⟩ := fk_cons k5
  obtain rfl := fk_nil k6
  refine ⟨⟨k, m, fr, to, s, n⟩, toV_ag h _, ?_, ?_, ?_⟩
  · have := max_len; show (s.size : Int) ≤ _; omega
  · exact hm0
  · have : IntKind.u64.max = 18446744073709551615 := rfl
    show m < _; omega
theorem ctx_of {P : Program} {t : Nat} (h : ∃ fs, P.underlying t = some (.struct fs)) (hf : flat P 3 t = some [.int .i64, .int .i64, .int .i64, .str]) {cs : List Value} (hp : PTy P t cs) : ∃ q : Ctx, toV P t cs = q.v ∧ q.wf := by
  obtain ⟨fs, h⟩ := h
  obtain ⟨v7, w7, rfl, ⟨z, rfl, _, _⟩, k1⟩ := fk_cons (flat_ok 3 t _ cs hf hp)
  obtain ⟨v8, w8, rfl, ⟨l, rfl, hm0, hm1⟩, k2⟩ := fk_cons k1
  obtain ⟨v9, w9, rfl, ⟨m, rfl, _, _⟩, k3⟩ := fk_cons k2
  obtain ⟨v10, w10, rfl, ⟨s, rfl, hs⟩, k4⟩ := fk_cons k3
  obtain rfl := fk_nil k4
  refine ⟨⟨z, l, m, s⟩, toV_ag h _, ?_⟩
  have := max_len; show (s.size : Int) ≤ _; omega
theorem pargs_nil {P : Program} {ps : List Value} (h : Pargs P [] ps) : ps = [] := by
  cases ps with
  | nil => rfl
  | cons => cases h
theorem pargs_cons {P : Program} {t : Nat} {ts : List TypeId} {ps : List Value} (h : Pargs P (t :: ts) ps) : ∃ cs qs, ps = toV P t cs :: qs ∧ PTy P t cs ∧ Pargs P ts qs := by
  cases ps with
  | nil => cases h
  | cons p ps =>
    obtain ⟨⟨cs, h1, h2⟩, h3⟩ := h
    exact ⟨cs, ps, by rw [h2], h1, h3⟩
end Go.PE
namespace Go.PE
structure Spn where
  f : Int
  t : Int
  deriving DecidableEq, Inhabited
def inS (l : List Spn) (k : Int) : Prop := ∃ s ∈ l, s.f ≤ k ∧ k ≤ s.t
theorem inS_nil (k : Int) : ¬ inS [] k := fun ⟨_, h, _⟩ => by cases h
theorem inS_cons (s : Spn) (r : List Spn) (k : Int) : inS (s :: r) k ↔ (s.f ≤ k ∧ k ≤ s.t) ∨ inS r k := by
  constructor
  · rintro ⟨x, hx, h⟩
    rcases List.mem_cons.1 hx with rfl | hx
    · exact .inl h
    · exact .inr ⟨x, hx, h⟩
  · rintro (h | ⟨x, hx, h⟩)
    · exact ⟨s, by simp, h⟩
    · exact ⟨x, by simp [hx], h⟩
theorem inS_append (a b : List Spn) (k : Int) : inS (a ++ b) k ↔ inS a k ∨ inS b k := by
  constructor
  · rintro ⟨x, hx, h⟩
    rcases List.mem_append.1 hx with hx | hx
    · exact .inl ⟨x, hx, h⟩
    · exact .inr ⟨x, hx, h⟩
  · rintro (⟨x, hx, h⟩ | ⟨x, hx, h⟩)
    · exact ⟨x, by simp [hx], h⟩
    · exact ⟨x, by simp [hx], h⟩
/-- behind b, in order, apart -/
def canon : Int → List Spn → Prop
  | _, [] => True
  | b, s :: r => b < s.f ∧ s.f ≤ s.t ∧ canon (s.t + 1) r
theorem canon_weak : ∀ {l : List Spn} {b b' : Int}, canon b l → b' ≤ b → canon b' l
  | [], _, _, _, _ => trivial
  | s :: r, b, b', h, hb => ⟨by have := h.1; omega, h.2⟩
theorem canon_lt : ∀ {l : List Spn} {b k : Int}, canon b l → inS l k → b < k
  | [], _, _, _, h => absurd h (inS_nil _)
  | s :: r, b, k, h, hk => by
    rcases (inS_cons _ _ _).1 hk with hk | hk
    · have := h.1; omega
    · have := canon_lt h.2.2 hk
      have := h.1; have := h.2.1; omega
theorem canon_mem : ∀ {l : List Spn} {b : Int} {s : Spn}, canon b l → s ∈ l → b < s.f ∧ s.f ≤ s.t
  | x :: r, b, s, h, hs => by
    rcases List.mem_cons.1 hs with rfl | hs
    · exact ⟨h.1, h.2.1⟩
    · have := canon_mem h.2.2 hs
      have := h.1; have := h.2.1
      exact ⟨by omega, by omega⟩
/-- the set of minutes says which list it is -/
theorem canon_ext : ∀ {l l' : List Spn} {b b' : Int}, canon b l → canon b' l' → (∀ k, inS l k ↔ inS l' k) → l = l'
  | [], [], _, _, _, _, _ => rfl
  | [], s :: r, _, _, _, h, e => absurd ((e s.f).2 ⟨s, by simp, Int.le_refl _, h.2.1⟩) (inS_nil _)
  | s :: r, [], _, _, h, _, e => absurd ((e s.f).1 ⟨s, by simp, Int.le_refl _, h.2.1⟩) (inS_nil _)
  | s :: r, s' :: r', b, b', h, h', e => by
    obtain ⟨h1, h2, h3⟩ := h
    obtain ⟨g1, g2, g3⟩ := h'
    have lo : ∀ {x : Spn} {q : List Spn} {k : Int}, x.f ≤ x.t → canon (x.t + 1) q → inS (x :: q) k → x.f ≤ k := fun hx hq hk => by
      rcases (inS_cons _ _ _).1 hk with hk | hk
      · exact hk.1
      · have := canon_lt hq hk; omega
    have e1 : s.f = s'.f := by
      have a := lo h2 h3 ((e s'.f).2 ⟨s', by simp, Int.le_refl _, g2⟩)
      have c := lo g2 g3 ((e s.f).1 ⟨s, by simp, Int.le_refl _, h2⟩)
      omega
    have up : ∀ {x y : Spn} {q p : List Spn}, x.f = y.f → canon (x.t + 1) q → x.f ≤ x.t → (∀ k, inS (y :: p) k → inS (x :: q) k) → y.t ≤ x.t := fun {x y q p} exy hq hx hk => by
      apply Classical.byContradiction
      intro hn
      have h5 := hk (x.t + 1) ⟨y, by simp, by omega, by omega⟩
      rcases (inS_cons _ _ _).1 h5 with h5 | h5
      · omega
      · have := canon_lt hq h5; omega
    have e2 : s.t = s'.t := by
      have a := up e1 h3 h2 (fun k hk => (e k).2 hk)
      have c := up e1.symm g3 g2 (fun k hk => (e k).1 hk)
      omega
    have es : s = s' := by cases s; cases s'; simp_all
    subst es
    have : r = r' := canon_ext h3 g3 fun k => by
      have hk := e k
      rw [inS_cons, inS_cons] at hk
      constructor
      · intro hr
        rcases hk.1 (.inr hr) with h5 | h5
        · have := canon_lt h3 hr; omega
        · exact h5
      · intro hr
        rcases hk.2 (.inr hr) with h5 | h5
        · have := canon_lt g3 hr; omega
        · exact h5
    rw [this]
/-! what two lists have in common -/
def meet1 (x y : Spn) : List Spn := if max x.f y.f ≤ min x.t y.t then [⟨max x.f y.f, min x.t y.t⟩] else []
def commonL (a b : List Spn) : List Spn := a.flatMap fun x => b.flatMap fun y => meet1 x y
theorem inS_meet1 (x y : Spn) (k : Int) : inS (meet1 x y) k ↔ (x.f ≤ k ∧ k ≤ x.t) ∧ (y.f ≤ k ∧ k ≤ y.t) := by
  unfold meet1
  split
  · rw [inS_cons]
    constructor
    · rintro (h | h)
      · simp only at h; omega
      · exact absurd h (inS_nil _)
    · intro h; left; simp only; omega
  · constructor
    · intro h; exact absurd h (inS_nil _)
    · intro h; omega
theorem inS_flat {α : Type} (f : α → List Spn) : ∀ (l : List α) (k : Int), inS (l.flatMap f) k ↔ ∃ x ∈ l, inS (f x) k
  | [], k => by simp [inS_nil]
  | a :: r, k => by
    rw [List.flatMap_cons, inS_append, inS_flat f r k]
    simp
theorem inS_common (a b : List Spn) (k : Int) : inS (commonL a b) k ↔ inS a k ∧ inS b k := by
  unfold commonL
  rw [inS_flat]
  constructor
  · rintro ⟨x, hx, h⟩
    rw [inS_flat] at h
    obtain ⟨y, hy, h⟩ := h
    rw [inS_meet1] at h
    exact ⟨⟨x, hx, h.1⟩, ⟨y, hy, h.2⟩⟩
  · rintro ⟨⟨x, hx, h1⟩, ⟨y, hy, h2⟩⟩
    refine ⟨x, hx, ?_⟩
    rw [inS_flat]
    exact ⟨y, hy, (inS_meet1 _ _ _).2 ⟨h1, h2⟩⟩
/-- the last minute, or b -/
def lastT : Int → List Spn → Int
  | b, [] => b
  | _, s :: r => lastT (s.t + 1) r
theorem canon_append : ∀ {a b : List Spn} {n : Int}, canon n a → canon (lastT n a) b → canon n (a ++ b)
  | [], b, n, _, h => h
  | s :: r, b, n, h, h' => ⟨h.1, h.2.1, canon_append h.2.2 h'⟩
theorem lastT_le : ∀ {a : List Spn} {n m : Int}, canon n a → n ≤ m → (∀ s ∈ a, s.t < m) → lastT n a ≤ m
  | [], n, m, _, h, _ => h
  | s :: r, n, m, h, hn, hs => lastT_le (a := r) (n := s.t + 1) h.2.2 (by have := hs s (by simp); omega) fun x hx => hs x (by simp [hx])
theorem canon_flat1 (x : Spn) (hx : x.f ≤ x.t) : ∀ {l : List Spn} {n c : Int}, canon c l → n < x.f → canon (max n c) (l.flatMap fun y => meet1 x y)
  | [], n, c, _, _ => trivial
  | y :: r, n, c, h, hn => by
    rw [List.flatMap_cons]
    have ih := canon_flat1 x hx (n := n) h.2.2 hn
    unfold meet1
    split
    · rename_i hm
      refine ⟨?_, ?_, ?_⟩
      · have := h.1; simp only; omega
      · simpa using hm
      · show canon (min x.t y.t + 1) _
        -- behind this one
        by_cases h5 : x.t + 1 ≤ y.t + 1
        · -- nothing more
          have : (r.flatMap fun y => if max x.f y.f ≤ min x.t y.t then [⟨max x.f y.f, min x.t y.t⟩] else ([] : List Spn)) = [] := by
            rw [List.flatMap_eq_nil_iff]
            intro z hz
            have := canon_mem h.2.2 hz
            rw [if_neg (by omega)]
          rw [this]; trivial
        · have h6 : max n (y.t + 1) = y.t + 1 ∨ max n (y.t + 1) = n := by omega
          have h7 : min x.t y.t + 1 ≤ max n (y.t + 1) := by omega
          exact canon_weak ih h7
    · exact canon_weak ih (by have := h.1; have := h.2.1; omega)
theorem meet1_t (x y s : Spn) (h : s ∈ meet1 x y) : x.f ≤ s.f ∧ s.t ≤ x.t ∧ s.f ≤ s.t := by
  unfold meet1 at h
  split at h
  · simp at h; subst h; simp only; omega
  · cases h
theorem canon_common : ∀ {a b : List Spn} {n c : Int}, canon n a → canon c b → canon n (commonL a b)
  | [], _, _, _, _, _ => trivial
  | x :: r, b, n, c, h, hb => by
    unfold commonL
    rw [List.flatMap_cons]
    have ih : canon (x.t + 1) (commonL r b) := canon_common h.2.2 hb
    have h1 := canon_flat1 x h.2.1 (n := n) hb h.1
    have h2 : canon n (b.flatMap fun y => meet1 x y) := canon_weak h1 (by omega)
    refine canon_append h2 ?_
    refine canon_weak ih (lastT_le h2 (by have := h.1; have := h.2.1; omega) fun s hs => ?_)
    obtain ⟨y, _, hy⟩ := List.mem_flatMap.1 hs
    have := meet1_t x y s hy
    omega
/-- with one span, which may be empty -/
theorem canon_common1 {a : List Spn} {n : Int} (s : Spn) (h : canon n a) : canon n (commonL a [s]) := by
  by_cases hs : s.f ≤ s.t
  · exact canon_common (c := s.f - 1) h ⟨by omega, hs, trivial⟩
  · have : commonL a [s] = [] := by
      unfold commonL
      rw [List.flatMap_eq_nil_iff]
      intro x _
      simp only [List.flatMap_cons, List.flatMap_nil, List.append_nil, meet1]
      rw [if_neg (by omega)]
    rw [this]; trivial
/-! spans that come in order of their beginnings: put together -/
theorem canon_snoc : ∀ {l : List Spn} {b : Int} {s : Spn}, canon b (l ++ [s]) ↔ canon b l ∧ lastT b l < s.f ∧ s.f ≤ s.t
  | [], b, s => by simp [canon, lastT]
  | x :: r, b, s => by
    simp only [List.cons_append, canon, lastT, canon_snoc (l := r)]
    constructor
    · rintro ⟨h1, h2, h3, h4⟩; exact ⟨⟨h1, h2, h3⟩, h4⟩
    · rintro ⟨⟨h1, h2, h3⟩, h4⟩; exact ⟨h1, h2, h3, h4⟩
theorem lastT_snoc : ∀ (l : List Spn) (b : Int) (s : Spn), lastT b (l ++ [s]) = s.t + 1
  | [], b, s => rfl
  | x :: r, b, s => lastT_snoc r (x.t + 1) s
/-- what the loop of merged has put together from the first ones -/
structure Mrg (b : Int) (done out : List Spn) : Prop where
  c : canon b out
  s : ∀ k, inS out k ↔ inS done k
  /-- no beginning lies behind the last one's -/
  l : ∀ o x, out = o ++ [x] → ∃ y ∈ done, x.f ≤ y.f ∧ ∀ z ∈ done, z.f ≤ y.f
theorem Mrg.nil (b : Int) : Mrg b [] [] := ⟨trivial, fun _ => Iff.rfl, fun o x h => by simp at h⟩
theorem Mrg.one {b : Int} {s : Spn} (h1 : b < s.f) (h2 : s.f ≤ s.t) : Mrg b [s] [s] := ⟨⟨h1, h2, trivial⟩, fun _ => Iff.rfl, fun o x h => by
  cases o with
  | nil => simp at h; exact ⟨s, by simp, by rw [h]; exact Int.le_refl _, fun z hz => by simp at hz; subst hz; exact Int.le_refl _⟩
  | cons a r => simp at h⟩
theorem Mrg.new {b : Int} {done o : List Spn} {x s : Spn} (h : Mrg b done (o ++ [x])) (h2 : s.f ≤ s.t) (h3 : ∀ z ∈ done, z.f ≤ s.f) (h4 : x.t + 1 < s.f) : Mrg b (done ++ [s]) (o ++ [x] ++ [s]) := by
  refine ⟨canon_snoc.2 ⟨h.c, by rw [lastT_snoc]; omega, h2⟩, fun k => by rw [inS_append, inS_append done, h.s], fun o' x' he => ?_⟩
  have : x' = s := by
    have := (List.append_inj' he rfl).2
    simpa using this.symm
  subst this
  exact ⟨x', by simp, Int.le_refl _, fun z hz => by
    rcases List.mem_append.1 hz with hz | hz
    · exact h3 z hz
    · simp at hz; subst hz; exact Int.le_refl _⟩
theorem Mrg.ext {b : Int} {done o : List Spn} {x s : Spn} (h : Mrg b done (o ++ [x])) (h2 : s.f ≤ s.t) (h3 : ∀ z ∈ done, z.f ≤ s.f) (h4 : s.f ≤ x.t + 1) : Mrg b (done ++ [s]) (o ++ [⟨x.f, max x.t s.t⟩]) := by
  obtain ⟨hc1, hc2, hc3⟩ := canon_snoc.1 h.c
  obtain ⟨y, hy, hyx, hyz⟩ := h.l o x rfl
  have hxs : x.f ≤ s.f := by have := h3 y hy; omega
  refine ⟨canon_snoc.2 ⟨hc1, hc2, by simp only; omega⟩, fun k => ?_, fun o' x' he => ?_⟩
  · have hk := h.s k
    rw [inS_append, inS_cons] at hk ⊢
    rw [inS_append done, ← hk, inS_cons]
    have hn := inS_nil k
    simp only
    constructor
    · rintro (h5 | h5 | h5)
      · exact .inl (.inl h5)
      · by_cases h6 : k ≤ x.t
        · exact .inl (.inr (.inl ⟨h5.1, h6⟩))
        · exact .inr (.inl ⟨by omega, by omega⟩)
      · exact absurd h5 hn
    · rintro ((h5 | h5 | h5) | h5 | h5)
      · exact .inl h5
      · exact .inr (.inl ⟨h5.1, by omega⟩)
      · exact absurd h5 hn
      · exact .inr (.inl ⟨by omega, by omega⟩)
      · exact absurd h5 hn
  · have : x' = ⟨x.f, max x.t s.t⟩ := by
      have := (List.append_inj' he rfl).2
      simpa using this.symm
    subst this
    exact ⟨s, by simp, hxs, fun z hz => by
      rcases List.mem_append.1 hz with hz | hz
      · exact h3 z hz
      · simp at hz; subst hz; exact Int.le_refl _⟩
end Go.PE
namespace Go.PE
open Go
def tb (a : Int) (j : Nat) : Bool := a.toNat.testBit j
def isU64 (a : Int) : Prop := 0 ≤ a ∧ a < 18446744073709551616
theorem u64_nat {a : Int} (h : isU64 a) : ∃ n : Nat, a = n ∧ n < 2 ^ 64 := by
  obtain ⟨h0, h1⟩ := h
  obtain ⟨n, rfl⟩ := Int.eq_ofNat_of_zero_le h0
  exact ⟨n, rfl, by omega⟩
theorem ofInt_toNat {n : Nat} (h : n < 2 ^ 64) : (BitVec.ofInt 64 (n : Int)).toNat = n := by
  rw [BitVec.toNat_ofInt]; simp; omega
theorem wrap_nat {n : Nat} (h : n < 2 ^ 64) : IntKind.u64.wrap (n : Int) = n := by
  rw [IntKind.wrap_u64]; omega
theorem and_u64 {a b : Int} (ha : isU64 a) (hb : isU64 b) : bitsV .and .u64 a b = ((a.toNat &&& b.toNat : Nat) : Int) := by
  obtain ⟨n, rfl, hn⟩ := u64_nat ha
  obtain ⟨m, rfl, hm⟩ := u64_nat hb
  unfold bitsV
  show IntKind.u64.wrap ((BitVec.ofInt 64 (n : Int) &&& BitVec.ofInt 64 (m : Int)).toNat : Int) = _
  rw [BitVec.toNat_and, ofInt_toNat hn, ofInt_toNat hm, wrap_nat (Nat.lt_of_le_of_lt Nat.and_le_left hn)]
  simp
theorem or_u64 {a b : Int} (ha : isU64 a) (hb : isU64 b) : bitsV .or .u64 a b = ((a.toNat ||| b.toNat : Nat) : Int) := by
  obtain ⟨n, rfl, hn⟩ := u64_nat ha
  obtain ⟨m, rfl, hm⟩ := u64_nat hb
  unfold bitsV
  show IntKind.u64.wrap ((BitVec.ofInt 64 (n : Int) ||| BitVec.ofInt 64 (m : Int)).toNat : Int) = _
  rw [BitVec.toNat_or, ofInt_toNat hn, ofInt_toNat hm, wrap_nat (Nat.or_lt_two_pow hn hm)]
  simp
theorem xor_u64 {a b : Int} (ha : isU64 a) (hb : isU64 b) : bitsV .xor .u64 a b = ((a.toNat ^^^ b.toNat : Nat) : Int) := by
  obtain ⟨n, rfl, hn⟩ := u64_nat ha
  obtain ⟨m, rfl, hm⟩ := u64_nat hb
  unfold bitsV
  show IntKind.u64.wrap ((BitVec.ofInt 64 (n : Int) ^^^ BitVec.ofInt 64 (m : Int)).toNat : Int) = _
  rw [BitVec.toNat_xor, ofInt_toNat hn, ofInt_toNat hm, wrap_nat (Nat.xor_lt_two_pow hn hm)]
  simp
theorem and_isU64 {a b : Int} (ha : isU64 a) (hb : isU64 b) : isU64 (bitsV .and .u64 a b) := by
  rw [and_u64 ha hb]
  obtain ⟨n, rfl, hn⟩ := u64_nat ha
  have := Nat.and_le_left (n := n) (m := b.toNat)
  unfold isU64
  simp only [Int.toNat_natCast]
  omega
theorem or_isU64 {a b : Int} (ha : isU64 a) (hb : isU64 b) : isU64 (bitsV .or .u64 a b) := by
  rw [or_u64 ha hb]
  obtain ⟨n, rfl, hn⟩ := u64_nat ha
  obtain ⟨m, rfl, hm⟩ := u64_nat hb
  have := Nat.or_lt_two_pow hn hm
  unfold isU64
  simp only [Int.toNat_natCast]
  omega
theorem xor_isU64 {a b : Int} (ha : isU64 a) (hb : isU64 b) : isU64 (bitsV .xor .u64 a b) := by
  rw [xor_u64 ha hb]
  obtain ⟨n, rfl, hn⟩ := u64_nat ha
  obtain ⟨m, rfl, hm⟩ := u64_nat hb
  have := Nat.xor_lt_two_pow hn hm
  unfold isU64
  simp only [Int.toNat_natCast]
  omega
theorem tb_and {a b : Int} (ha : isU64 a) (hb : isU64 b) (j : Nat) : tb (bitsV .and .u64 a b) j = (tb a j && tb b j) := by
  unfold tb
  rw [and_u64 ha hb, Int.toNat_natCast, Nat.testBit_and]
theorem tb_or {a b : Int} (ha : isU64 a) (hb : isU64 b) (j : Nat) : tb (bitsV .or .u64 a b) j = (tb a j || tb b j) := by
  unfold tb
  rw [or_u64 ha hb, Int.toNat_natCast, Nat.testBit_or]
theorem tb_pow (i j : Nat) : tb (2 ^ i : Int) j = decide (i = j) := by
  unfold tb
  rw [show ((2 : Int) ^ i).toNat = 2 ^ i by
    have h2 : ((2 : Int) ^ i) = ((2 ^ i : Nat) : Int) := by simp
    rw [h2]; exact Int.toNat_natCast _, Nat.testBit_two_pow]
theorem tb_ext {a b : Int} (ha : isU64 a) (hb : isU64 b) (h : ∀ j, j < 64 → tb a j = tb b j) : a = b := by
  obtain ⟨n, rfl, hn⟩ := u64_nat ha
  obtain ⟨m, rfl, hm⟩ := u64_nat hb
  congr 1
  refine Nat.eq_of_testBit_eq fun j => ?_
  by_cases hj : j < 64
  · exact h j hj
  · rw [Nat.testBit_lt_two_pow (Nat.lt_of_lt_of_le hn (Nat.pow_le_pow_right (by omega) (by omega))), Nat.testBit_lt_two_pow (Nat.lt_of_lt_of_le hm (Nat.pow_le_pow_right (by omega) (by omega)))]
theorem tb_hi {a : Int} {n j : Nat} (h0 : 0 ≤ a) (h1 : a < 2 ^ n) (h : n ≤ j) : tb a j = false := by
  obtain ⟨m, rfl⟩ := Int.eq_ofNat_of_zero_le h0
  unfold tb
  have : m < 2 ^ n := by
    have h2 : ((2 : Int) ^ n) = ((2 ^ n : Nat) : Int) := by simp
    omega
  exact Nat.testBit_lt_two_pow (Nat.lt_of_lt_of_le this (Nat.pow_le_pow_right (by omega) h))
theorem tb_all {n j : Nat} : tb ((2 : Int) ^ n - 1) j = decide (j < n) := by
  unfold tb
  rw [show ((2 : Int) ^ n - 1).toNat = 2 ^ n - 1 by
    have h2 : ((2 : Int) ^ n) = ((2 ^ n : Nat) : Int) := by simp
    rw [h2]; have := Nat.two_pow_pos n; omega]
  exact Nat.testBit_two_pow_sub_one n j
/-- some tb is set where the mask is not 0 -/
theorem tb_ne {a : Int} (ha : isU64 a) (h : a ≠ 0) : ∃ j, j < 64 ∧ tb a j = true := by
  apply Classical.byContradiction
  intro hn
  refine h (tb_ext ha ⟨by omega, by omega⟩ fun j hj => ?_)
  have h0 : tb 0 j = false := by simp [tb]
  rw [h0]
  cases hb : tb a j with
  | false => rfl
  | true => exact absurd ⟨j, hj, hb⟩ hn
theorem tb_0 (j : Nat) : tb 0 j = false := by simp [tb]
theorem shr_nat {a : Int} (h0 : 0 ≤ a) (j : Nat) : a.fdiv (2 ^ j) = ((a.toNat / 2 ^ j : Nat) : Int) := by
  obtain ⟨m, rfl⟩ := Int.eq_ofNat_of_zero_le h0
  rw [Int.fdiv_eq_ediv_of_nonneg _ (by exact Int.le_of_lt (Int.pow_pos (by omega)))]
  simp
/-- x >> j & 1 -/
theorem shr_and1 {a : Int} (h : isU64 a) (j : Nat) : bitsV .and .u64 (a.fdiv (2 ^ j)) 1 = if tb a j then 1 else 0 := by
  obtain ⟨n, rfl, hn⟩ := u64_nat h
  rw [shr_nat (by omega), Int.toNat_natCast]
  have h3 := Nat.div_le_self n (2 ^ j)
  have h1 : isU64 ((n / 2 ^ j : Nat) : Int) := by
    generalize n / 2 ^ j = q at h3
    unfold isU64; omega
  rw [and_u64 h1 ⟨by omega, by omega⟩]
  unfold tb
  rw [Int.toNat_natCast, Nat.testBit_eq_decide_div_mod_eq]
  show (((n / 2 ^ j) &&& (1 : Int).toNat : Nat) : Int) = _
  rw [show (1 : Int).toNat = 1 from rfl, Nat.and_one_is_mod]
  rcases Nat.mod_two_eq_zero_or_one (n / 2 ^ j) with h2 | h2 <;> simp [h2]
/-- x >> j % 2 -/
theorem shr_mod2 {a : Int} (h : isU64 a) (j : Nat) : (a.fdiv (2 ^ j)).tmod 2 = if tb a j then 1 else 0 := by
  obtain ⟨n, rfl, hn⟩ := u64_nat h
  rw [shr_nat (by omega), Int.toNat_natCast]
  unfold tb
  rw [Int.toNat_natCast, Nat.testBit_eq_decide_div_mod_eq]
  generalize n / 2 ^ j = q
  rw [Int.tmod_eq_emod_of_nonneg (by omega)]
  rcases Nat.mod_two_eq_zero_or_one q with h2 | h2
  · simp [h2]; omega
  · simp [h2]; omega
end Go.PE
namespace Go.PE
open Go
/-- the day of the week of a minute -/
def wk (m : Int) : Nat := ((m / 1440) % 7).toNat
structure Clo (S : Int → Prop) (fr to days : Int) (l : List Spn) : Prop where
  fr : S fr ∧ ∀ m, S m → fr ≤ m
  to : S to ∧ ∀ m, S m → m ≤ to
  u : isU64 days
  days : ∀ j, tb days j = true ↔ ∃ m, S m ∧ wk m = j
  c : canon (-1) l
  l : ∀ k, inS l k ↔ ∃ m, S m ∧ m % 1440 = k
theorem Clo.uniq {S : Int → Prop} {f t d f' t' d' : Int} {l l' : List Spn} (h : Clo S f t d l) (h' : Clo S f' t' d' l') : f = f' ∧ t = t' ∧ d = d' ∧ l = l' := by
  refine ⟨?_, ?_, tb_ext h.u h'.u fun j _ => ?_, canon_ext h.c h'.c fun k => (h.l k).trans (h'.l k).symm⟩
  · have := h.fr.2 _ h'.fr.1; have := h'.fr.2 _ h.fr.1; omega
  · have := h.to.2 _ h'.to.1; have := h'.to.2 _ h.to.1; omega
  · rw [Bool.eq_iff_iff]; exact (h.days j).trans (h'.days j).symm
theorem Clo.congr {S S' : Int → Prop} {f t d : Int} {l : List Spn} (h : Clo S f t d l) (e : ∀ m, S m ↔ S' m) : Clo S' f t d l := by
  have : S = S' := funext fun m => propext (e m)
  subst this; exact h
/-- what has been put together so far: nothing, or the summary of the part -/
def CloO (S : Int → Prop) (fr to days : Int) (l : List Spn) (f0 : Int) : Prop := (fr = f0 ∧ to = -1 ∧ days = 0 ∧ l = [] ∧ ∀ m, ¬ S m) ∨ Clo S fr to days l
/-- the minutes of a day -/
def onDay (d m : Int) : Prop := m / 1440 = d
theorem canon_head {s : Spn} {r : List Spn} {b k : Int} (h : canon b (s :: r)) (hk : inS (s :: r) k) : s.f ≤ k := by
  rcases (inS_cons _ _ _).1 hk with hk | hk
  · exact hk.1
  · have := canon_lt h.2.2 hk; have := h.2.1; omega
theorem lastT_ge : ∀ {q : List Spn} {n : Int}, canon n q → n ≤ lastT n q
  | [], n, _ => Int.le_refl _
  | x :: q, n, h => by
    have := lastT_ge h.2.2
    have := h.1; have := h.2.1
    show n ≤ lastT (x.t + 1) q
    omega
theorem lastT_mem : ∀ {q : List Spn} {n : Int} {s : Spn}, canon n q → s ∈ q → s.t < lastT n q
  | x :: q, n, s, h, hs => by
    rcases List.mem_cons.1 hs with rfl | hs
    · have := lastT_ge h.2.2
      show s.t < lastT (s.t + 1) q
      omega
    · exact lastT_mem (q := q) (n := x.t + 1) h.2.2 hs
theorem canon_last {o : List Spn} {x : Spn} {b k : Int} (h : canon b (o ++ [x])) (hk : inS (o ++ [x]) k) : k ≤ x.t := by
  obtain ⟨c1, c2, c3⟩ := canon_snoc.1 h
  rw [inS_append] at hk
  rcases hk with ⟨s, hs, hk⟩ | hk
  · have := lastT_mem c1 hs; omega
  · rcases (inS_cons _ _ _).1 hk with hk | hk
    · exact hk.2
    · exact absurd hk (inS_nil _)
/-- a day is added behind the others -/
theorem CloO.day {S X : Int → Prop} {fr to days f0 d lo hi : Int} {l ld l' : List Spn} (h : CloO S fr to days l f0) (h0 : 0 ≤ d) (hS : ∀ m, S m → m / 1440 < d) (hX : ∀ m, X m → m / 1440 = d) (hl : ∀ k, inS ld k ↔ X (d * 1440 + k) ∧ 0 ≤ k ∧ k < 1440)
    (hlo : inS ld lo) (hmin : ∀ k, inS ld k → lo ≤ k) (hhi : inS ld hi) (hmax : ∀ k, inS ld k → k ≤ hi)
    (hf0 : d * 1440 + lo ≤ f0) (hc : canon (-1) l') (hl' : ∀ k, inS l' k ↔ inS l k ∨ inS ld k) (hS0 : ∀ m, S m → 0 ≤ m) :
    Clo (fun m => S m ∨ X m) (min fr (d * 1440 + lo)) (max to (d * 1440 + hi)) (bitsV .or .u64 days (2 ^ (d % 7).toNat)) l' := by
  have hXk : ∀ m, X m ↔ m / 1440 = d ∧ inS ld (m % 1440) := fun m => by
    constructor
    · intro hm
      have := hX m hm
      refine ⟨this, (hl _).2 ⟨?_, by omega, by omega⟩⟩
      rw [show d * 1440 + m % 1440 = m by omega]; exact hm
    · rintro ⟨e, hi⟩
      have := ((hl _).1 hi).1
      rw [show d * 1440 + m % 1440 = m by omega] at this; exact this
  have hhX := (hl lo).1 hlo
  have hgX := (hl hi).1 hhi
  have hd7 : (d % 7).toNat < 7 := by omega
  have hpow : isU64 ((2 : Int) ^ (d % 7).toNat) := by
    generalize (d % 7).toNat = n at hd7
    have : n = 0 ∨ n = 1 ∨ n = 2 ∨ n = 3 ∨ n = 4 ∨ n = 5 ∨ n = 6 := by omega
    rcases this with rfl | rfl | rfl | rfl | rfl | rfl | rfl <;> exact ⟨by decide, by decide⟩
  have hwk : ∀ m, X m → wk m = (d % 7).toNat := fun m hm => by unfold wk; rw [hX m hm]
  rcases h with ⟨h1, rfl, rfl, rfl, hno⟩ | h
  · have ef : min fr (d * 1440 + lo) = d * 1440 + lo := by omega
    have et : max (-1) (d * 1440 + hi) = d * 1440 + hi := by omega
    rw [ef, et]
    refine ⟨⟨.inr hhX.1, fun m hm => ?_⟩, ⟨.inr hgX.1, fun m hm => ?_⟩, or_isU64 ⟨by omega, by omega⟩ hpow, fun j => ?_, hc, fun k => ?_⟩
    · rcases hm with hm | hm
      · exact absurd hm (hno m)
      · have := (hXk m).1 hm; have := hmin _ this.2; omega
    · rcases hm with hm | hm
      · exact absurd hm (hno m)
      · have := (hXk m).1 hm; have := hmax _ this.2; omega
    · rw [tb_or ⟨by omega, by omega⟩ hpow, tb_0, tb_pow]
      simp only [Bool.false_or, decide_eq_true_eq]
      constructor
      · intro e; exact ⟨_, .inr hhX.1, by rw [hwk _ hhX.1, e]⟩
      · rintro ⟨m, hm | hm, e⟩
        · exact absurd hm (hno m)
        · rw [← e, hwk m hm]
    · rw [hl']
      constructor
      · rintro (hk | hk)
        · exact absurd hk (inS_nil _)
        · have := (hl k).1 hk
          exact ⟨_, .inr this.1, by omega⟩
      · rintro ⟨m, hm | hm, e⟩
        · exact absurd hm (hno m)
        · right; rw [← e]; exact ((hXk m).1 hm).2
  · have ef : min fr (d * 1440 + lo) = fr := by
      have a := hS _ h.fr.1
      omega
    have et : max to (d * 1440 + hi) = d * 1440 + hi := by
      have a := hS _ h.to.1
      omega
    rw [ef, et]
    refine ⟨⟨.inl h.fr.1, fun m hm => ?_⟩, ⟨.inr hgX.1, fun m hm => ?_⟩, or_isU64 h.u hpow, fun j => ?_, hc, fun k => ?_⟩
    · rcases hm with hm | hm
      · exact h.fr.2 m hm
      · have := hX m hm; have a := hS _ h.fr.1; omega
    · rcases hm with hm | hm
      · have := hS m hm; omega
      · have := (hXk m).1 hm; have := hmax _ this.2; omega
    · rw [tb_or h.u hpow, tb_pow]
      simp only [Bool.or_eq_true, decide_eq_true_eq]
      rw [h.days]
      constructor
      · rintro (⟨m, hm, e⟩ | e)
        · exact ⟨m, .inl hm, e⟩
        · exact ⟨_, .inr hhX.1, by rw [hwk _ hhX.1, e]⟩
      · rintro ⟨m, hm | hm, e⟩
        · exact .inl ⟨m, hm, e⟩
        · right; rw [← e, hwk m hm]
    · rw [hl', h.l]
      constructor
      · rintro (⟨m, hm, e⟩ | hk)
        · exact ⟨m, .inl hm, e⟩
        · have := (hl k).1 hk
          exact ⟨_, .inr this.1, by omega⟩
      · rintro ⟨m, hm | hm, e⟩
        · exact .inl ⟨m, hm, e⟩
        · right; rw [← e]; exact ((hXk m).1 hm).2
/-! the days between need not be looked at -/
/-- the minutes from fr to to, on days of the week D, in minutes of the day M -/
def Tm (fr to : Int) (D : Nat → Bool) (M : Int → Prop) (m : Int) : Prop := fr ≤ m ∧ m ≤ to ∧ D (wk m) = true ∧ M (m % 1440)
/-- near the borders: n days at each end -/
def near (n first last d : Int) : Prop := first ≤ d ∧ d ≤ last ∧ (d ≤ first + n ∨ last - n ≤ d)
theorem near_all {n fr to f t d : Int} {D : Nat → Bool} {M : Int → Prop} {l : List Spn} (hn : 8 ≤ n) (h : Clo (fun m => Tm fr to D M m ∧ near n (fr / 1440) (to / 1440) (m / 1440)) f t d l) : Clo (Tm fr to D M) f t d l := by
  -- a day between has its like at both ends
  have lo : ∀ m, Tm fr to D M m → ∃ m', Tm fr to D M m' ∧ near n (fr / 1440) (to / 1440) (m' / 1440) ∧ m' ≤ m ∧ wk m' = wk m ∧ m' % 1440 = m % 1440 := by
    intro m hm
    obtain ⟨h1, h2, h3, h4⟩ := hm
    by_cases hd : m / 1440 ≤ fr / 1440 + n ∨ to / 1440 - n ≤ m / 1440
    · exact ⟨m, ⟨h1, h2, h3, h4⟩, ⟨by omega, by omega, hd⟩, Int.le_refl _, rfl, rfl⟩
    · have hw : wk (((fr / 1440 + 1) + (m / 1440 - (fr / 1440 + 1)) % 7) * 1440 + m % 1440) = wk m := by unfold wk; congr 1; omega
      have hk : (((fr / 1440 + 1) + (m / 1440 - (fr / 1440 + 1)) % 7) * 1440 + m % 1440) % 1440 = m % 1440 := by omega
      refine ⟨((fr / 1440 + 1) + (m / 1440 - (fr / 1440 + 1)) % 7) * 1440 + m % 1440, ⟨by omega, by omega, by rw [hw]; exact h3, by rw [hk]; exact h4⟩, ⟨by omega, by omega, by left; omega⟩, by omega, hw, hk⟩
  have hi : ∀ m, Tm fr to D M m → ∃ m', Tm fr to D M m' ∧ near n (fr / 1440) (to / 1440) (m' / 1440) ∧ m ≤ m' := by
    intro m hm
    obtain ⟨h1, h2, h3, h4⟩ := hm
    by_cases hd : m / 1440 ≤ fr / 1440 + n ∨ to / 1440 - n ≤ m / 1440
    · exact ⟨m, ⟨h1, h2, h3, h4⟩, ⟨by omega, by omega, hd⟩, Int.le_refl _⟩
    · have hw : wk (((to / 1440 - 1) - ((to / 1440 - 1) - m / 1440) % 7) * 1440 + m % 1440) = wk m := by unfold wk; congr 1; omega
      have hk : (((to / 1440 - 1) - ((to / 1440 - 1) - m / 1440) % 7) * 1440 + m % 1440) % 1440 = m % 1440 := by omega
      refine ⟨((to / 1440 - 1) - ((to / 1440 - 1) - m / 1440) % 7) * 1440 + m % 1440, ⟨by omega, by omega, by rw [hw]; exact h3, by rw [hk]; exact h4⟩, ⟨by omega, by omega, by right; omega⟩, by omega⟩
  refine ⟨⟨h.fr.1.1, fun m hm => ?_⟩, ⟨h.to.1.1, fun m hm => ?_⟩, h.u, fun j => ?_, h.c, fun k => ?_⟩
  · obtain ⟨m', a, b, c, _⟩ := lo m hm
    have := h.fr.2 m' ⟨a, b⟩; omega
  · obtain ⟨m', a, b, c⟩ := hi m hm
    have := h.to.2 m' ⟨a, b⟩; omega
  · rw [h.days]
    constructor
    · rintro ⟨m, hm, e⟩; exact ⟨m, hm.1, e⟩
    · rintro ⟨m, hm, e⟩
      obtain ⟨m', a, b, _, c, _⟩ := lo m hm
      exact ⟨m', ⟨a, b⟩, c.trans e⟩
  · rw [h.l]
    constructor
    · rintro ⟨m, hm, e⟩; exact ⟨m, hm.1, e⟩
    · rintro ⟨m, hm, e⟩
      obtain ⟨m', a, b, _, _, c⟩ := lo m hm
      exact ⟨m', ⟨a, b⟩, c.trans e⟩
theorem near_none {n fr to : Int} {D : Nat → Bool} {M : Int → Prop} (hn : 8 ≤ n) (h : ∀ m, ¬ (Tm fr to D M m ∧ near n (fr / 1440) (to / 1440) (m / 1440))) : ∀ m, ¬ Tm fr to D M m := by
  intro m hm
  obtain ⟨h1, h2, h3, h4⟩ := hm
  by_cases hd : m / 1440 ≤ fr / 1440 + n ∨ to / 1440 - n ≤ m / 1440
  · exact h m ⟨⟨h1, h2, h3, h4⟩, ⟨by omega, by omega, hd⟩⟩
  · have hw : wk (((fr / 1440 + 1) + (m / 1440 - (fr / 1440 + 1)) % 7) * 1440 + m % 1440) = wk m := by unfold wk; congr 1; omega
    have hk : (((fr / 1440 + 1) + (m / 1440 - (fr / 1440 + 1)) % 7) * 1440 + m % 1440) % 1440 = m % 1440 := by omega
    exact h (((fr / 1440 + 1) + (m / 1440 - (fr / 1440 + 1)) % 7) * 1440 + m % 1440) ⟨⟨by omega, by omega, by rw [hw]; exact h3, by rw [hk]; exact h4⟩, ⟨by omega, by omega, by left; omega⟩⟩
end Go.PE
namespace Go.PE
open Go
structure CloM (S : Int → Prop) (fr to days : Int) (M : Int → Prop) : Prop where
  fr : S fr ∧ ∀ m, S m → fr ≤ m
  to : S to ∧ ∀ m, S m → m ≤ to
  u : isU64 days
  days : ∀ j, tb days j = true ↔ ∃ m, S m ∧ wk m = j
  M : ∀ k, M k ↔ ∃ m, S m ∧ m % 1440 = k
theorem CloM.clo {S : Int → Prop} {fr to days : Int} {M : Int → Prop} {l : List Spn} (h : CloM S fr to days M) (hc : canon (-1) l) (hl : ∀ k, inS l k ↔ M k) : Clo S fr to days l :=
  ⟨h.fr, h.to, h.u, h.days, hc, fun k => (hl k).trans (h.M k)⟩
def CloMO (S : Int → Prop) (fr to days : Int) (M : Int → Prop) : Prop := (fr = -1 ∧ to = -1 ∧ days = 0 ∧ (∀ k, ¬ M k) ∧ ∀ m, ¬ S m) ∨ CloM S fr to days M
theorem wk_pow (m : Int) : isU64 ((2 : Int) ^ wk m) := by
  have hd7 : wk m < 7 := by unfold wk; omega
  generalize wk m = n at hd7
  have : n = 0 ∨ n = 1 ∨ n = 2 ∨ n = 3 ∨ n = 4 ∨ n = 5 ∨ n = 6 := by omega
  rcases this with rfl | rfl | rfl | rfl | rfl | rfl | rfl <;> exact ⟨by decide, by decide⟩
theorem CloMO.add {S S' : Int → Prop} {fr to days n : Int} {M M' : Int → Prop} (h : CloMO S fr to days M) (h0 : 0 ≤ n) (hS : ∀ m, S m → m < n) (hS0 : ∀ m, S m → 0 ≤ m) (hS' : ∀ m, S' m ↔ S m ∨ m = n) (hM : ∀ k, M' k ↔ M k ∨ k = n % 1440) :
    CloM S' (if fr < 0 then n else fr) n (bitsV .or .u64 days (2 ^ wk n)) M' := by
  have hp := wk_pow n
  rcases h with ⟨rfl, rfl, rfl, hk, hno⟩ | h
  · rw [if_pos (by omega)]
    refine ⟨⟨(hS' n).2 (.inr rfl), fun m hm => ?_⟩, ⟨(hS' n).2 (.inr rfl), fun m hm => ?_⟩, or_isU64 ⟨by omega, by omega⟩ hp, fun j => ?_, fun k => ?_⟩
    · rcases (hS' m).1 hm with hm | hm
      · exact absurd hm (hno m)
      · omega
    · rcases (hS' m).1 hm with hm | hm
      · exact absurd hm (hno m)
      · omega
    · rw [tb_or ⟨by omega, by omega⟩ hp, tb_0, tb_pow]
      simp only [Bool.false_or, decide_eq_true_eq]
      constructor
      · intro e; exact ⟨n, (hS' n).2 (.inr rfl), e⟩
      · rintro ⟨m, hm, e⟩
        rcases (hS' m).1 hm with hm | rfl
        · exact absurd hm (hno m)
        · exact e
    · rw [hM]
      constructor
      · rintro (e | e)
        · exact absurd e (hk k)
        · exact ⟨n, (hS' n).2 (.inr rfl), e.symm⟩
      · rintro ⟨m, hm, e⟩
        rcases (hS' m).1 hm with hm | rfl
        · exact absurd hm (hno m)
        · exact .inr e.symm
  · have hf0 := hS0 _ h.fr.1
    have hfn := hS _ h.fr.1
    rw [if_neg (by omega)]
    refine ⟨⟨(hS' _).2 (.inl h.fr.1), fun m hm => ?_⟩, ⟨(hS' n).2 (.inr rfl), fun m hm => ?_⟩, or_isU64 h.u hp, fun j => ?_, fun k => ?_⟩
    · rcases (hS' m).1 hm with hm | hm
      · exact h.fr.2 m hm
      · omega
    · rcases (hS' m).1 hm with hm | hm
      · have := hS m hm; omega
      · omega
    · rw [tb_or h.u hp, tb_pow]
      simp only [Bool.or_eq_true, decide_eq_true_eq]
      rw [h.days]
      constructor
      · rintro (⟨m, hm, e⟩ | e)
        · exact ⟨m, (hS' m).2 (.inl hm), e⟩
        · exact ⟨n, (hS' n).2 (.inr rfl), e⟩
      · rintro ⟨m, hm, e⟩
        rcases (hS' m).1 hm with hm | rfl
        · exact .inl ⟨m, hm, e⟩
        · exact .inr e
    · rw [hM, h.M]
      constructor
      · rintro (⟨m, hm, e⟩ | e)
        · exact ⟨m, (hS' m).2 (.inl hm), e⟩
        · exact ⟨n, (hS' n).2 (.inr rfl), e.symm⟩
      · rintro ⟨m, hm, e⟩
        rcases (hS' m).1 hm with hm | rfl
        · exact .inl ⟨m, hm, e⟩
        · exact .inr e.symm
theorem CloMO.keep {S S' : Int → Prop} {fr to days : Int} {M : Int → Prop} (h : CloMO S fr to days M) (hS' : ∀ m, S' m ↔ S m) : CloMO S' fr to days M := by
  have : S' = S := funext fun m => propext (hS' m)
  subst this; exact h
/-! runs -/
structure Run (M : Int → Prop) (k : Int) (out : List Spn) : Prop where
  c : canon (-1) out
  s : ∀ j, inS out j ↔ M j ∧ 0 ≤ j ∧ j < k
theorem Run.nil (M : Int → Prop) : Run M 0 [] := ⟨trivial, fun j => ⟨fun h => absurd h (inS_nil _), fun h => by omega⟩⟩
theorem Run.skip {M : Int → Prop} {k : Int} {out : List Spn} (h : Run M k out) (hk : ¬ M k) : Run M (k + 1) out := ⟨h.c, fun j => by
  rw [h.s]
  constructor
  · rintro ⟨a, b, c⟩; exact ⟨a, b, by omega⟩
  · rintro ⟨a, b, c⟩
    refine ⟨a, b, ?_⟩
    have : j ≠ k := fun e => hk (e ▸ a)
    omega⟩
theorem Run.last {M : Int → Prop} {k : Int} {o : List Spn} {x : Spn} (h : Run M k (o ++ [x])) : x.f ≤ x.t ∧ -1 < x.f ∧ x.t < k := by
  have := canon_mem h.c (show x ∈ o ++ [x] by simp)
  have h2 := (h.s x.t).1 ⟨x, by simp, this.2, Int.le_refl _⟩
  exact ⟨this.2, this.1, h2.2.2⟩
theorem Run.new {M : Int → Prop} {k : Int} {out : List Spn} (h : Run M k out) (h0 : 0 ≤ k) (hk : M k) (hl : ∀ o x, out = o ++ [x] → x.t ≠ k - 1) : Run M (k + 1) (out ++ [⟨k, k⟩]) := by
  refine ⟨canon_snoc.2 ⟨h.c, ?_, Int.le_refl _⟩, fun j => ?_⟩
  · rcases List.eq_nil_or_concat out with rfl | ⟨o, x, rfl⟩
    · show -1 < k; omega
    · simp only [List.concat_eq_append] at h hl ⊢
      rw [lastT_snoc]
      have := h.last
      have := hl o x rfl
      show x.t + 1 < k; omega
  · rw [inS_append, h.s, inS_cons]
    simp only
    constructor
    · rintro (⟨a, b, c⟩ | h5 | h5)
      · exact ⟨a, b, by omega⟩
      · have : j = k := by omega
        subst this; exact ⟨hk, h0, by omega⟩
      · exact absurd h5 (inS_nil _)
    · rintro ⟨a, b, c⟩
      by_cases e : j = k
      · exact .inr (.inl ⟨by omega, by omega⟩)
      · exact .inl ⟨a, b, by omega⟩
theorem Run.ext {M : Int → Prop} {k : Int} {o : List Spn} {x : Spn} (h : Run M k (o ++ [x])) (hk : M k) (hl : x.t = k - 1) : Run M (k + 1) (o ++ [⟨x.f, k⟩]) := by
  obtain ⟨c1, c2, c3⟩ := canon_snoc.1 h.c
  have hl2 := h.last
  refine ⟨canon_snoc.2 ⟨c1, c2, by simp only; omega⟩, fun j => ?_⟩
  have hj := h.s j
  rw [inS_append, inS_cons] at hj ⊢
  have hn := inS_nil j
  simp only
  constructor
  · rintro (h5 | h5 | h5)
    · have := hj.1 (.inl h5); exact ⟨this.1, this.2.1, by omega⟩
    · by_cases e : j = k
      · subst e; exact ⟨hk, by omega, by omega⟩
      · have := hj.1 (.inr (.inl ⟨h5.1, by omega⟩)); exact ⟨this.1, this.2.1, by omega⟩
    · exact absurd h5 hn
  · rintro ⟨a, b, c⟩
    by_cases e : j = k
    · exact .inr (.inl ⟨by omega, by omega⟩)
    · rcases hj.2 ⟨a, b, by omega⟩ with h5 | h5 | h5
      · exact .inl h5
      · exact .inr (.inl ⟨h5.1, by omega⟩)
      · exact absurd h5 hn
/-! authorities -/
structure Aut where
  none : Bool
  zones : Int
  lines : Int
  days : Int
  fr : Int
  to : Int
  daily : List Spn
  holder : ByteArray
  deriving DecidableEq
def noName : ByteArray := ⟨#[]⟩
def noneA : Aut := ⟨true, 0, 0, 0, 0, 0, [], noName⟩
def fullA : Aut := ⟨false, 18446744073709551615, 4294967295, 127, 0, 67108864, [⟨0, 1439⟩], noName⟩
def Aut.S (a : Aut) (m : Int) : Prop := Tm a.fr a.to (tb a.days) (inS a.daily) m
/-- r is the only summary of a's kind with a's contexts -/
def IsClosed (a r : Aut) : Prop := ((a.zones = 0 ∨ a.lines = 0 ∨ ∀ m, ¬ a.S m) ∧ r = noneA) ∨ (a.zones ≠ 0 ∧ a.lines ≠ 0 ∧ ∃ f t d l, Clo a.S f t d l ∧ r = ⟨false, a.zones, a.lines, d, f, t, l, a.holder⟩)
theorem Clo.some {S : Int → Prop} {f t d : Int} {l : List Spn} (h : Clo S f t d l) : ¬ ∀ m, ¬ S m := fun hn => hn _ h.fr.1
theorem IsClosed.uniq {a a' r r' : Aut} (h : IsClosed a r) (h' : IsClosed a' r') (hz : a.zones = a'.zones) (hl : a.lines = a'.lines) (hh : a.holder = a'.holder) (hS : ∀ m, a.S m ↔ a'.S m) : r = r' := by
  have e : a.S = a'.S := funext fun m => propext (hS m)
  rcases h with ⟨h1, rfl⟩ | ⟨h1, h2, f, t, d, l, hc, rfl⟩
  · rcases h' with ⟨_, rfl⟩ | ⟨h1', h2', f, t, d, l, hc, rfl⟩
    · rfl
    · rcases h1 with h1 | h1 | h1
      · exact absurd (hz ▸ h1) h1'
      · exact absurd (hl ▸ h1) h2'
      · exact absurd (fun m hm => h1 m ((hS m).2 hm)) hc.some
  · rcases h' with ⟨h1', rfl⟩ | ⟨h1', h2', f', t', d', l', hc', rfl⟩
    · rcases h1' with h1' | h1' | h1'
      · exact absurd (hz ▸ h1') h1
      · exact absurd (hl ▸ h1') h2
      · exact absurd (fun m hm => h1' m ((hS m).1 hm)) hc.some
    · rw [e] at hc
      obtain ⟨rfl, rfl, rfl, rfl⟩ := hc.uniq hc'
      rw [hz, hl, hh]
end Go.PE
namespace Go.PE
open Go
theorem Run.ex (M : Int → Prop) : ∀ n : Nat, ∃ l, Run M n l
  | 0 => ⟨[], Run.nil M⟩
  | n + 1 => by
    obtain ⟨l, h⟩ := Run.ex M n
    by_cases hM : M n
    · rcases List.eq_nil_or_concat l with rfl | ⟨o, x, rfl⟩
      · exact ⟨_, h.new (by omega) hM fun o x e => by simp at e⟩
      · rw [List.concat_eq_append] at h
        by_cases hx : x.t = (n : Int) - 1
        · exact ⟨_, h.ext hM hx⟩
        · exact ⟨_, h.new (by omega) hM fun o' x' e => by
            have := (List.append_inj' e rfl).2
            simp at this
            rw [← this]; exact hx⟩
    · exact ⟨l, h.skip hM⟩
/-- the minutes of the day of a predicate 'daily' -/
def dayB (fr to k : Int) : Prop := if fr ≤ to then fr ≤ k ∧ k ≤ to else (k ≤ to ∨ fr ≤ k)
def conf (l : List Pred) : Prop := ∃ p ∈ l, ∃ q ∈ l, p.kind = 6 ∧ q.kind = 6 ∧ p.name ≠ q.name
/-- what a list of predicates permits, before it is closed -/
structure OfI (l : List Pred) (a : Aut) : Prop where
  none : a.none = false
  zu : isU64 a.zones
  lu : isU64 a.lines
  du : isU64 a.days
  z : ∀ j, tb a.zones j = true ↔ j < 64 ∧ ¬ conf l ∧ ∀ p ∈ l, p.kind = 1 → tb p.mask j = true
  li : ∀ j, tb a.lines j = true ↔ j < 32 ∧ ∀ p ∈ l, p.kind = 2 → tb p.mask j = true
  d : ∀ j, tb a.days j = true ↔ j < 7 ∧ ∀ p ∈ l, p.kind = 3 → tb p.mask j = true
  f : ∀ m, (a.fr ≤ m ∧ m ≤ a.to) ↔ (0 ≤ m ∧ m ≤ 67108864 ∧ ∀ p ∈ l, p.kind = 4 → p.fr ≤ m ∧ m ≤ p.to)
  fb : 0 ≤ a.fr ∧ a.fr ≤ 67108864 ∧ 0 ≤ a.to ∧ a.to ≤ 67108864
  c : canon (-1) a.daily
  k : ∀ k, inS a.daily k ↔ 0 ≤ k ∧ k < 1440 ∧ ∀ p ∈ l, p.kind = 5 → dayB p.fr p.to k
  h : (∃ p ∈ l, p.kind = 6 ∧ a.holder = p.name) ∨ (a.holder = noName ∧ ∀ p ∈ l, p.kind ≠ 6)
theorem full_zones : (18446744073709551615 : Int) = 2 ^ 64 - 1 := by decide
theorem full_lines : (4294967295 : Int) = 2 ^ 32 - 1 := by decide
theorem full_days : (127 : Int) = 2 ^ 7 - 1 := by decide
theorem OfI.nil : OfI [] fullA where
  none := rfl
  zu := ⟨by decide, by decide⟩
  lu := ⟨by decide, by decide⟩
  du := ⟨by decide, by decide⟩
  z := fun j => by
    show tb 18446744073709551615 j = true ↔ _
    rw [full_zones, tb_all]; simp [conf]
  li := fun j => by
    show tb 4294967295 j = true ↔ _
    rw [full_lines, tb_all]; simp
  d := fun j => by
    show tb 127 j = true ↔ _
    rw [full_days, tb_all]; simp
  f := fun m => by simp [fullA]
  fb := ⟨by decide, by decide, by decide, by decide⟩
  c := ⟨by show (-1 : Int) < 0; omega, by show (0 : Int) ≤ 1439; omega, trivial⟩
  k := fun k => by
    rw [show fullA.daily = [⟨0, 1439⟩] from rfl, inS_cons]
    simp [inS_nil]; omega
  h := .inr ⟨rfl, by simp⟩
theorem all_snoc {l : List Pred} {p : Pred} {Q : Pred → Prop} : (∀ q ∈ l ++ [p], Q q) ↔ (∀ q ∈ l, Q q) ∧ Q p := by
  constructor
  · intro h; exact ⟨fun q hq => h q (by simp [hq]), h p (by simp)⟩
  · rintro ⟨h1, h2⟩ q hq
    rcases List.mem_append.1 hq with hq | hq
    · exact h1 q hq
    · simp at hq; subst hq; exact h2
theorem conf_snoc {l : List Pred} {p : Pred} (hp : p.kind ≠ 6) : conf (l ++ [p]) ↔ conf l := by
  constructor
  · rintro ⟨a, ha, b, hb, h1, h2, h3⟩
    refine ⟨a, ?_, b, ?_, h1, h2, h3⟩
    · rcases List.mem_append.1 ha with ha | ha
      · exact ha
      · simp at ha; subst ha; exact absurd h1 hp
    · rcases List.mem_append.1 hb with hb | hb
      · exact hb
      · simp at hb; subst hb; exact absurd h2 hp
  · rintro ⟨a, ha, b, hb, h⟩; exact ⟨a, by simp [ha], b, by simp [hb], h⟩
theorem OfI.hold {l : List Pred} {a : Aut} {p : Pred} (h : OfI l a) (hp : p.kind ≠ 6) : (∃ q ∈ l ++ [p], q.kind = 6 ∧ a.holder = q.name) ∨ (a.holder = noName ∧ ∀ q ∈ l ++ [p], q.kind ≠ 6) := by
  rcases h.h with ⟨q, hq, e⟩ | ⟨e, hn⟩
  · exact .inl ⟨q, by simp [hq], e⟩
  · exact .inr ⟨e, (all_snoc (Q := fun q => q.kind ≠ 6)).2 ⟨hn, hp⟩⟩
section
variable {l : List Pred} {a : Aut} {p : Pred} (h : OfI l a)
include h
theorem OfI.zone (hp : p.kind = 1) (hm : isU64 p.mask) : OfI (l ++ [p]) { a with zones := bitsV .and .u64 a.zones p.mask : Aut } :=
  { h with
    zu := and_isU64 h.zu hm
    z := fun j => by
      show tb (bitsV .and .u64 a.zones p.mask) j = true ↔ _
      rw [tb_and h.zu hm, Bool.and_eq_true, h.z, conf_snoc (by omega), all_snoc]
      simp [hp, and_assoc]
    li := fun j => by rw [all_snoc]; simp [hp, h.li]
    d := fun j => by rw [all_snoc]; simp [hp, h.d]
    f := fun m => by rw [all_snoc]; simp [hp, h.f]
    k := fun k => by rw [all_snoc]; simp [hp, h.k]
    h := h.hold (by omega) }
theorem OfI.line (hp : p.kind = 2) (hm : isU64 p.mask) : OfI (l ++ [p]) { a with lines := bitsV .and .u64 a.lines p.mask : Aut } :=
  { h with
    lu := and_isU64 h.lu hm
    z := fun j => by rw [conf_snoc (by omega), all_snoc]; simp [hp, h.z]
    li := fun j => by
      show tb (bitsV .and .u64 a.lines p.mask) j = true ↔ _
      rw [tb_and h.lu hm, Bool.and_eq_true, h.li, all_snoc]
      simp [hp, and_assoc]
    d := fun j => by rw [all_snoc]; simp [hp, h.d]
    f := fun m => by rw [all_snoc]; simp [hp, h.f]
    k := fun k => by rw [all_snoc]; simp [hp, h.k]
    h := h.hold (by omega) }
theorem OfI.dayw (hp : p.kind = 3) (hm : isU64 p.mask) : OfI (l ++ [p]) { a with days := bitsV .and .u64 a.days p.mask : Aut } :=
  { h with
    du := and_isU64 h.du hm
    z := fun j => by rw [conf_snoc (by omega), all_snoc]; simp [hp, h.z]
    li := fun j => by rw [all_snoc]; simp [hp, h.li]
    d := fun j => by
      show tb (bitsV .and .u64 a.days p.mask) j = true ↔ _
      rw [tb_and h.du hm, Bool.and_eq_true, h.d, all_snoc]
      simp [hp, and_assoc]
    f := fun m => by rw [all_snoc]; simp [hp, h.f]
    k := fun k => by rw [all_snoc]; simp [hp, h.k]
    h := h.hold (by omega) }
theorem OfI.time (hp : p.kind = 4) (h0 : 0 ≤ p.fr) (h1 : p.fr ≤ p.to) (h2 : p.to ≤ 67108864) : OfI (l ++ [p]) { a with fr := max a.fr p.fr, to := min a.to p.to : Aut } :=
  { h with
    z := fun j => by rw [conf_snoc (by omega), all_snoc]; simp [hp, h.z]
    li := fun j => by rw [all_snoc]; simp [hp, h.li]
    d := fun j => by rw [all_snoc]; simp [hp, h.d]
    f := fun m => by
      rw [all_snoc]
      have := h.f m
      simp only [hp, true_implies]
      constructor
      · intro hm
        have h3 := this.1 ⟨by omega, by omega⟩
        exact ⟨h3.1, h3.2.1, h3.2.2, by omega, by omega⟩
      · rintro ⟨a1, a2, a3, a4⟩
        have := this.2 ⟨a1, a2, a3⟩
        exact ⟨by omega, by omega⟩
    fb := by have := h.fb; simp only; omega
    k := fun k => by rw [all_snoc]; simp [hp, h.k]
    h := h.hold (by omega) }
theorem OfI.dayly (hp : p.kind = 5) {dl : List Spn} (hc : canon (-1) dl) (hd : ∀ k, inS dl k ↔ 0 ≤ k ∧ k < 1440 ∧ dayB p.fr p.to k) : OfI (l ++ [p]) { a with daily := commonL a.daily dl : Aut } :=
  { h with
    z := fun j => by rw [conf_snoc (by omega), all_snoc]; simp [hp, h.z]
    li := fun j => by rw [all_snoc]; simp [hp, h.li]
    d := fun j => by rw [all_snoc]; simp [hp, h.d]
    f := fun m => by rw [all_snoc]; simp [hp, h.f]
    c := canon_common h.c hc
    k := fun k => by
      show inS (commonL a.daily dl) k ↔ _
      rw [inS_common, h.k, hd, all_snoc]
      simp only [hp, true_implies]
      constructor
      · rintro ⟨⟨a1, a2, a3⟩, _, _, a4⟩; exact ⟨a1, a2, a3, a4⟩
      · rintro ⟨a1, a2, a3, a4⟩; exact ⟨⟨a1, a2, a3⟩, a1, a2, a4⟩
    h := h.hold (by omega) }
theorem OfI.rides (hp : p.kind = 7) : OfI (l ++ [p]) a :=
  { h with
    z := fun j => by rw [conf_snoc (by omega), all_snoc]; simp [hp, h.z]
    li := fun j => by rw [all_snoc]; simp [hp, h.li]
    d := fun j => by rw [all_snoc]; simp [hp, h.d]
    f := fun m => by rw [all_snoc]; simp [hp, h.f]
    k := fun k => by rw [all_snoc]; simp [hp, h.k]
    h := h.hold (by omega) }
/-- names of valid predicates are not empty -/
def named (l : List Pred) : Prop := ∀ p ∈ l, p.kind = 6 → p.name ≠ noName
theorem OfI.holder (hp : p.kind = 6) (hn : named l) {z : Int} (hz : z = if a.holder ≠ noName ∧ a.holder ≠ p.name then 0 else a.zones) : OfI (l ++ [p]) { a with zones := z, holder := p.name : Aut } := by
  have hcf : conf (l ++ [p]) ↔ conf l ∨ (a.holder ≠ noName ∧ a.holder ≠ p.name) := by
    constructor
    · rintro ⟨x, hx, y, hy, h1, h2, h3⟩
      by_cases hl : conf l
      · exact .inl hl
      right
      have key : ∀ q ∈ l, q.kind = 6 → a.holder = q.name := by
        intro q hq hq6
        rcases h.h with ⟨r, hr, h6, e⟩ | ⟨_, hno⟩
        · apply Classical.byContradiction
          intro hne
          exact hl ⟨r, hr, q, hq, h6, hq6, fun e2 => hne (e.trans e2)⟩
        · exact absurd hq6 (hno q hq)
      have : ∃ q ∈ l, q.kind = 6 ∧ q.name ≠ p.name := by
        rcases List.mem_append.1 hx with hx' | hx'
        · rcases List.mem_append.1 hy with hy' | hy'
          · exact absurd ⟨x, hx', y, hy', h1, h2, h3⟩ hl
          · have hy2 : y = p := by simpa using hy'
            exact ⟨x, hx', h1, hy2 ▸ h3⟩
        · have hx2 : x = p := by simpa using hx'
          rcases List.mem_append.1 hy with hy' | hy'
          · exact ⟨y, hy', h2, fun e => h3 (by rw [hx2, e])⟩
          · have hy2 : y = p := by simpa using hy'
            exact absurd (by rw [hx2, hy2]) h3
      obtain ⟨q, hq, h6, hne⟩ := this
      rw [key q hq h6]
      exact ⟨hn q hq h6, hne⟩
    · rintro (⟨x, hx, y, hy, h3⟩ | ⟨h1, h2⟩)
      · exact ⟨x, by simp [hx], y, by simp [hy], h3⟩
      · rcases h.h with ⟨r, hr, h6, e⟩ | ⟨e, _⟩
        · exact ⟨r, by simp [hr], p, by simp, h6, hp, fun e2 => h2 (e.trans e2)⟩
        · exact absurd e h1
  have hzu : isU64 z := by
    rw [hz]; split
    · exact ⟨by omega, by omega⟩
    · exact h.zu
  exact { h with
    zu := hzu
    z := fun j => by
      show tb z j = true ↔ _
      rw [hcf, all_snoc, hz]
      split
      · rename_i hh
        simp [tb_0, hh]
      · rename_i hh
        rw [h.z]
        simp only [hp, hh, or_false]
        simp
    li := fun j => by rw [all_snoc]; simp [hp, h.li]
    d := fun j => by rw [all_snoc]; simp [hp, h.d]
    f := fun m => by rw [all_snoc]; simp [hp, h.f]
    k := fun k => by rw [all_snoc]; simp [hp, h.k]
    h := .inl ⟨p, by simp, hp, rfl⟩ }
end
/-- the authority of a list -/
def IsOf (l : List Pred) (r : Aut) : Prop := ∃ a, OfI l a ∧ IsClosed a r
theorem OfI.S_iff {l : List Pred} {a : Aut} (h : OfI l a) (m : Int) : a.S m ↔ (0 ≤ m ∧ m ≤ 67108864 ∧ ∀ p ∈ l, p.kind = 4 → p.fr ≤ m ∧ m ≤ p.to) ∧ (wk m < 7 ∧ ∀ p ∈ l, p.kind = 3 → tb p.mask (wk m) = true) ∧ (0 ≤ m % 1440 ∧ m % 1440 < 1440 ∧ ∀ p ∈ l, p.kind = 5 → dayB p.fr p.to (m % 1440)) := by
  unfold Aut.S Tm
  rw [h.d, h.k, ← h.f]
  simp only [and_assoc]
theorem IsOf.uniq {l l' : List Pred} {r r' : Aut} (h : IsOf l r) (h' : IsOf l' r') (he : ∀ p, p ∈ l ↔ p ∈ l') : r = r' := by
  obtain ⟨a, ha, hr⟩ := h
  obtain ⟨b, hb, hr'⟩ := h'
  have hq : ∀ Q : Pred → Prop, (∀ p ∈ l, Q p) ↔ ∀ p ∈ l', Q p := fun Q => ⟨fun h p hp => h p ((he p).2 hp), fun h p hp => h p ((he p).1 hp)⟩
  have hcf : conf l ↔ conf l' := by
    constructor
    · rintro ⟨x, hx, y, hy, h⟩; exact ⟨x, (he x).1 hx, y, (he y).1 hy, h⟩
    · rintro ⟨x, hx, y, hy, h⟩; exact ⟨x, (he x).2 hx, y, (he y).2 hy, h⟩
  have hz : a.zones = b.zones := tb_ext ha.zu hb.zu fun j _ => by
    rw [Bool.eq_iff_iff, ha.z, hb.z, hcf, hq]
  have hl : a.lines = b.lines := tb_ext ha.lu hb.lu fun j _ => by
    rw [Bool.eq_iff_iff, ha.li, hb.li, hq]
  have hS : ∀ m, a.S m ↔ b.S m := fun m => by
    rw [ha.S_iff, hb.S_iff, hq, hq, hq]
  by_cases hc : conf l
  · have z0 : a.zones = 0 := tb_ext ha.zu ⟨by omega, by omega⟩ fun j _ => by
      rw [tb_0, Bool.eq_false_iff]
      intro h
      exact ((ha.z j).1 h).2.1 hc
    have z0' : b.zones = 0 := hz ▸ z0
    rcases hr with ⟨_, rfl⟩ | ⟨h1, _⟩
    · rcases hr' with ⟨_, rfl⟩ | ⟨h1, _⟩
      · rfl
      · exact absurd z0' h1
    · exact absurd z0 h1
  · have hh : a.holder = b.holder := by
      rcases ha.h with ⟨p, hp, h6, e⟩ | ⟨e, hno⟩
      · rcases hb.h with ⟨q, hq, h6', e'⟩ | ⟨e', hno⟩
        · rw [e, e']
          apply Classical.byContradiction
          intro hne
          exact hc ⟨p, hp, q, (he q).2 hq, h6, h6', hne⟩
        · exact absurd h6 (hno p ((he p).1 hp))
      · rcases hb.h with ⟨q, hq, h6', e'⟩ | ⟨e', _⟩
        · exact absurd h6' (hno q ((he q).2 hq))
        · rw [e, e']
    exact hr.uniq hr' hz hl hh hS
end Go.PE
namespace Go.PE
open Go
/-- macaroon/authority.Of: 28 slots, results [(.cA 2 8), (.t 3)] -/
def authority_OfC_j1 (f_predicate_Valid : Nat) (f_authority_restrict : Nat) : PC :=
  (.seq (.block 1 (.seq (.reg [((some 16), (none, (.ixS 6 (.tmp 12) (.tmp 14)))),
       ((some 17), (none, (.ldA 6 (.tmp 16)))),
       ((some 6), (none, (.alloc [(.int .i64 0), (.int .u64 0), (.int .i64 0), (.int .i64 0), (.string ⟨#[]⟩), (.int .i64 0)]))),
       (none, (none, (.st 6 (.tmp 6) (.tmp 17))))])
  (.seq (.seq (.reg [((some 18), (none, (.ldA 6 (.tmp 6)))),
       ((some 19), (none, (.call f_predicate_Valid [(.tmp 18)]))),
       ((some 20), (none, (.un .not (.tmp 19))))])
  (.cond (.tmp 20)
       (.seq (.reg [((some 21), (none, (.build [(.inl [(.bool false)]), (.inl [(.int .u64 0)]), (.inl [(.int .u64 0)]), (.inl [(.int .u64 0)]), (.inl [(.int .i64 0)]), (.inl [(.int .i64 0)]), (.inl [(deep [])]), (.inl [(.string ⟨#[]⟩)])]))),
         (none, (none, (.st 8 (.tmp 2) (.tmp 21)))),
         ((some 3), (none, (.mv (.const (.int .i64 5)))))])
  .ret)
       .skip))
  (.reg [((some 22), (none, (.ldA 8 (.tmp 4)))),
       ((some 23), (none, (.ldA 6 (.tmp 6)))),
       ((some 24), (none, (.call f_authority_restrict [(.tmp 22), (.tmp 23)]))),
       (none, (none, (.st 8 (.tmp 4) (.tmp 24))))]))))
  (.reg [((some 25), (none, (.bi .add (.tmp 14) (.const (.int .i64 1))))),
      ((some 14), (none, (.mv (.tmp 25))))]))
def authority_OfC_j2 (t_api_Span : Nat) (f_authority_Full : Nat) (f_predicate_Valid : Nat) (f_authority_restrict : Nat) (f_authority_closed : Nat) : PC :=
  (.seq (.reg [((some 11), (none, (.call f_authority_Full []))),
    ((some 4), (none, (.alloc [(.bool false), (.int .u64 0), (.int .u64 0), (.int .u64 0), (.int .i64 0), (.int .i64 0), (lin t_api_Span []), (.string ⟨#[]⟩)]))),
    (none, (none, (.st 8 (.tmp 4) (.tmp 11))))])
  (.seq (.seq (.reg [((some 12), (none, (.mv (.tmp 0)))),
    ((some 13), (none, (.len (.tmp 12)))),
    ((some 14), (none, (.mv (.const (.int .i64 0)))))])
  (.block 0 (.loop (.seq (.reg [((some 15), (none, (.bi .lss (.tmp 14) (.tmp 13))))])
  (.seq (.cond (.tmp 15)
      .skip
      (.exit 0))
  (authority_OfC_j1 f_predicate_Valid f_authority_restrict))))))
  (.seq (.reg [((some 26), (none, (.ldA 8 (.tmp 4)))),
    ((some 27), (none, (.call f_authority_closed [(.tmp 26)]))),
    (none, (none, (.st 8 (.tmp 2) (.tmp 27)))),
    ((some 3), (none, (.mv (.const (.int .i64 0)))))])
  .ret)))
def authority_OfC (t_api_Span : Nat) (f_authority_Full : Nat) (f_predicate_Valid : Nat) (f_authority_restrict : Nat) (f_authority_closed : Nat) : PC :=
  (.seq (.reg [((some 2), (none, (.alloc [(.bool false), (.int .u64 0), (.int .u64 0), (.int .u64 0), (.int .i64 0), (.int .i64 0), (lin t_api_Span []), (.string ⟨#[]⟩)]))),
    ((some 3), (none, (.mv (.const (.int .i64 0)))))])
  (.seq (.seq (.reg [((some 7), (none, (.mv (.tmp 0)))),
    ((some 8), (none, (.len (.tmp 7)))),
    ((some 9), (none, (.bi .gtr (.tmp 8) (.const (.int .i64 64)))))])
  (.cond (.tmp 9)
    (.seq (.reg [((some 10), (none, (.build [(.inl [(.bool false)]), (.inl [(.int .u64 0)]), (.inl [(.int .u64 0)]), (.inl [(.int .u64 0)]), (.inl [(.int .i64 0)]), (.inl [(.int .i64 0)]), (.inl [(deep [])]), (.inl [(.string ⟨#[]⟩)])]))),
      (none, (none, (.st 8 (.tmp 2) (.tmp 10)))),
      ((some 3), (none, (.mv (.const (.int .i64 2)))))])
  .ret)
    .skip))
  (authority_OfC_j2 t_api_Span f_authority_Full f_predicate_Valid f_authority_restrict f_authority_closed)))
/-- macaroon/authority.Full: 4 slots, results [(.cA 0 8)] -/
def authority_FullC (t_api_Span : Nat) : PC :=
  (.seq (.reg [((some 0), (none, (.alloc [(.bool false), (.int .u64 0), (.int .u64 0), (.int .u64 0), (.int .i64 0), (.int .i64 0), (lin t_api_Span []), (.string ⟨#[]⟩)])))])
  (.seq (.reg [((some 1), (none, (.build [(.inr ((.const (.int .i64 0)), 1)), (.inr ((.const (.int .i64 1439)), 1))]))),
    ((some 2), (none, (.mks t_api_Span 2 false [(.tmp 1)]))),
    ((some 3), (none, (.build [(.inl [(.bool false)]), (.inr ((.const (.int .u64 18446744073709551615)), 1)), (.inr ((.const (.int .u64 4294967295)), 1)), (.inr ((.const (.int .u64 127)), 1)), (.inl [(.int .i64 0)]), (.inr ((.const (.int .i64 67108864)), 1)), (.inr ((.tmp 2), 1)), (.inl [(.string ⟨#[]⟩)])]))),
    (none, (none, (.st 8 (.tmp 0) (.tmp 3))))])
  .ret))
/-- macaroon/authority.restrict: 73 slots, results [(.cA 4 8)] -/
def authority_restrictC (t_api_Span : Nat) (f_authority_daily : Nat) (f_authority_common : Nat) : PC :=
  (.seq (.reg [((some 2), (none, (.box 8 (.tmp 0)))),
    ((some 3), (none, (.box 6 (.tmp 1)))),
    ((some 4), (none, (.alloc [(.bool false), (.int .u64 0), (.int .u64 0), (.int .u64 0), (.int .i64 0), (.int .i64 0), (lin t_api_Span []), (.string ⟨#[]⟩)])))])
  (.seq (.seq (.reg [((some 5), (none, (.fa 0 (.tmp 3)))),
    ((some 6), (none, (.ld false (.tmp 5))))])
  (.block 0 (.seq (.reg [((some 8), (none, (.bi .eql (.tmp 6) (.const (.int .i64 1))))),
     ((some 7), (none, (.mv (.tmp 8))))])
  (.cond (.tmp 7)
     (.reg [((some 9), (none, (.fa 1 (.tmp 2)))),
       ((some 10), (none, (.ld false (.tmp 9)))),
       ((some 11), (none, (.fa 1 (.tmp 3)))),
       ((some 12), (none, (.ld false (.tmp 11)))),
       ((some 13), (none, (.bi .and (.tmp 10) (.tmp 12)))),
       ((some 14), (none, (.fa 1 (.tmp 2)))),
       (none, (none, (.st 1 (.tmp 14) (.tmp 13))))])
     (.seq (.reg [((some 16), (none, (.bi .eql (.tmp 6) (.const (.int .i64 2))))),
       ((some 15), (none, (.mv (.tmp 16))))])
  (.cond (.tmp 15)
       (.reg [((some 17), (none, (.fa 2 (.tmp 2)))),
         ((some 18), (none, (.ld false (.tmp 17)))),
         ((some 19), (none, (.fa 1 (.tmp 3)))),
         ((some 20), (none, (.ld false (.tmp 19)))),
         ((some 21), (none, (.bi .and (.tmp 18) (.tmp 20)))),
         ((some 22), (none, (.fa 2 (.tmp 2)))),
         (none, (none, (.st 1 (.tmp 22) (.tmp 21))))])
       (.seq (.reg [((some 24), (none, (.bi .eql (.tmp 6) (.const (.int .i64 3))))),
         ((some 23), (none, (.mv (.tmp 24))))])
  (.cond (.tmp 23)
         (.reg [((some 25), (none, (.fa 3 (.tmp 2)))),
           ((some 26), (none, (.ld false (.tmp 25)))),
           ((some 27), (none, (.fa 1 (.tmp 3)))),
           ((some 28), (none, (.ld false (.tmp 27)))),
           ((some 29), (none, (.bi .and (.tmp 26) (.tmp 28)))),
           ((some 30), (none, (.fa 3 (.tmp 2)))),
           (none, (none, (.st 1 (.tmp 30) (.tmp 29))))])
         (.seq (.reg [((some 32), (none, (.bi .eql (.tmp 6) (.const (.int .i64 4))))),
           ((some 31), (none, (.mv (.tmp 32))))])
  (.cond (.tmp 31)
           (.ord (.one ((some 33), (none, (.fa 4 (.tmp 2))))
             (.one ((some 34), (none, (.ld false (.tmp 33))))
             (.one ((some 35), (none, (.fa 2 (.tmp 3))))
             (.one ((some 36), (none, (.ld false (.tmp 35))))
             (.one ((some 37), (none, (.mm true (.tmp 34) (.tmp 36))))
             (.one ((some 38), (none, (.fa 5 (.tmp 2))))
             (.one ((some 39), (none, (.ld false (.tmp 38))))
             (.one ((some 40), (none, (.fa 3 (.tmp 3))))
             (.one ((some 43), (none, (.fa 4 (.tmp 2))))
             (.alt (.one ((some 41), (none, (.ld false (.tmp 40))))
              (.one ((some 42), (none, (.mm false (.tmp 39) (.tmp 41))))
              (.one (none, (none, (.st 1 (.tmp 43) (.tmp 37))))
              (.one ((some 44), (none, (.fa 5 (.tmp 2))))
              (.one (none, (none, (.st 1 (.tmp 44) (.tmp 42))))
              .done)))))
             (.one (none, (none, (.st 1 (.tmp 43) (.tmp 37))))
              (.one ((some 41), (none, (.ld false (.tmp 40))))
              (.one ((some 42), (none, (.mm false (.tmp 39) (.tmp 41))))
              (.one ((some 44), (none, (.fa 5 (.tmp 2))))
              (.one (none, (none, (.st 1 (.tmp 44) (.tmp 42))))
              .done))))))))))))))))
           (.seq (.reg [((some 46), (none, (.bi .eql (.tmp 6) (.const (.int .i64 5))))),
             ((some 45), (none, (.mv (.tmp 46))))])
  (.cond (.tmp 45)
             (.ord (.one ((some 47), (none, (.fa 6 (.tmp 2))))
               (.one ((some 49), (none, (.fa 2 (.tmp 3))))
               (.one ((some 51), (none, (.fa 3 (.tmp 3))))
               (.alt (.one ((some 48), (none, (.ld false (.tmp 47))))
                (.alt (.one ((some 50), (none, (.ld false (.tmp 49))))
                 (.one ((some 52), (none, (.ld false (.tmp 51))))
                 (.one ((some 53), (none, (.call f_authority_daily [(.tmp 50), (.tmp 52)])))
                 (.one ((some 54), (none, (.call f_authority_common [(.tmp 48), (.tmp 53)])))
                 (.one ((some 55), (none, (.fa 6 (.tmp 2))))
                 (.one (none, (none, (.sts (.tmp 55) 54)))
                 .done))))))
                (.one ((some 52), (none, (.ld false (.tmp 51))))
                 (.one ((some 50), (none, (.ld false (.tmp 49))))
                 (.one ((some 53), (none, (.call f_authority_daily [(.tmp 50), (.tmp 52)])))
                 (.one ((some 54), (none, (.call f_authority_common [(.tmp 48), (.tmp 53)])))
                 (.one ((some 55), (none, (.fa 6 (.tmp 2))))
                 (.one (none, (none, (.sts (.tmp 55) 54)))
                 .done))))))))
               (.alt (.one ((some 50), (none, (.ld false (.tmp 49))))
                 (.alt (.one ((some 48), (none, (.ld false (.tmp 47))))
                  (.one ((some 52), (none, (.ld false (.tmp 51))))
                  (.one ((some 53), (none, (.call f_authority_daily [(.tmp 50), (.tmp 52)])))
                  (.one ((some 54), (none, (.call f_authority_common [(.tmp 48), (.tmp 53)])))
                  (.one ((some 55), (none, (.fa 6 (.tmp 2))))
                  (.one (none, (none, (.sts (.tmp 55) 54)))
                  .done))))))
                 (.one ((some 52), (none, (.ld false (.tmp 51))))
                  (.alt (.one ((some 48), (none, (.ld false (.tmp 47))))
                   (.one ((some 53), (none, (.call f_authority_daily [(.tmp 50), (.tmp 52)])))
                   (.one ((some 54), (none, (.call f_authority_common [(.tmp 48), (.tmp 53)])))
                   (.one ((some 55), (none, (.fa 6 (.tmp 2))))
                   (.one (none, (none, (.sts (.tmp 55) 54)))
                   .done)))))
                  (.one ((some 53), (none, (.call f_authority_daily [(.tmp 50), (.tmp 52)])))
                   (.one ((some 48), (none, (.ld false (.tmp 47))))
                   (.one ((some 54), (none, (.call f_authority_common [(.tmp 48), (.tmp 53)])))
                   (.one ((some 55), (none, (.fa 6 (.tmp 2))))
                   (.one (none, (none, (.sts (.tmp 55) 54)))
                   .done)))))))))
                (.one ((some 52), (none, (.ld false (.tmp 51))))
                 (.alt (.one ((some 48), (none, (.ld false (.tmp 47))))
                  (.one ((some 50), (none, (.ld false (.tmp 49))))
                  (.one ((some 53), (none, (.call f_authority_daily [(.tmp 50), (.tmp 52)])))
                  (.one ((some 54), (none, (.call f_authority_common [(.tmp 48), (.tmp 53)])))
                  (.one ((some 55), (none, (.fa 6 (.tmp 2))))
                  (.one (none, (none, (.sts (.tmp 55) 54)))
                  .done))))))
                 (.one ((some 50), (none, (.ld false (.tmp 49))))
                  (.alt (.one ((some 48), (none, (.ld false (.tmp 47))))
                   (.one ((some 53), (none, (.call f_authority_daily [(.tmp 50), (.tmp 52)])))
                   (.one ((some 54), (none, (.call f_authority_common [(.tmp 48), (.tmp 53)])))
                   (.one ((some 55), (none, (.fa 6 (.tmp 2))))
                   (.one (none, (none, (.sts (.tmp 55) 54)))
                   .done)))))
                  (.one ((some 53), (none, (.call f_authority_daily [(.tmp 50), (.tmp 52)])))
                   (.one ((some 48), (none, (.ld false (.tmp 47))))
                   (.one ((some 54), (none, (.call f_authority_common [(.tmp 48), (.tmp 53)])))
                   (.one ((some 55), (none, (.fa 6 (.tmp 2))))
                   (.one (none, (none, (.sts (.tmp 55) 54)))
                   .done)))))))))))))))
             (.seq (.reg [((some 57), (none, (.bi .eql (.tmp 6) (.const (.int .i64 6))))),
               ((some 56), (none, (.mv (.tmp 57))))])
  (.cond (.tmp 56)
               (.seq (.seq (.reg [((some 58), (none, (.fa 7 (.tmp 2)))),
                 ((some 59), (none, (.ld false (.tmp 58)))),
                 ((some 60), (none, (.bi .neq (.tmp 59) (.const (.string ⟨#[]⟩))))),
                 ((some 61), (none, (.mv (.tmp 60)))),
                 ((some 62), ((some (61, true)), (.fa 7 (.tmp 2)))),
                 ((some 63), ((some (61, true)), (.ld false (.tmp 62)))),
                 ((some 64), ((some (61, true)), (.fa 4 (.tmp 3)))),
                 ((some 65), ((some (61, true)), (.ld false (.tmp 64)))),
                 ((some 66), ((some (61, true)), (.bi .neq (.tmp 63) (.tmp 65)))),
                 ((some 67), (none, (.pick (.tmp 61) (.tmp 66) (.const (.bool false)))))])
  (.cond (.tmp 67)
                 (.reg [((some 68), (none, (.fa 1 (.tmp 2)))),
                   (none, (none, (.st 1 (.tmp 68) (.const (.int .u64 0)))))])
                 .skip))
  (.reg [((some 69), (none, (.fa 4 (.tmp 3)))),
                 ((some 70), (none, (.ld false (.tmp 69)))),
                 ((some 71), (none, (.fa 7 (.tmp 2)))),
                 (none, (none, (.st 1 (.tmp 71) (.tmp 70))))]))
               .skip))))))))))))))
  (.seq (.reg [((some 72), (none, (.ldA 8 (.tmp 2)))),
    (none, (none, (.st 8 (.tmp 4) (.tmp 72))))])
  .ret)))
/-- macaroon/authority.closed: 98 slots, results [(.cA 2 8)] -/
def authority_closed_BC_j1 (f_authority_merged : Nat) : PC :=
  (.seq (.ord (.one ((some 45), (none, (.fa 3 (.tmp 5))))
       (.one ((some 46), (none, (.ld false (.tmp 45))))
       (.one ((some 47), (none, (.mv (.tmp 6))))
       (.one ((some 48), (none, (.bi .rem (.tmp 47) (.const (.int .i64 7)))))
       (.one ((some 49), (none, (.bi .shl (.const (.int .u64 1)) (.tmp 48))))
       (.one ((some 50), (none, (.bi .or (.tmp 46) (.tmp 49))))
       (.one ((some 51), (none, (.fa 3 (.tmp 5))))
       (.one (none, (none, (.st 1 (.tmp 51) (.tmp 50))))
       .done)))))))))
  (.seq (.ord (.one ((some 52), (none, (.fa 4 (.tmp 5))))
       (.one ((some 53), (none, (.ld false (.tmp 52))))
       (.one ((some 54), (none, (.mv (.tmp 6))))
       (.one ((some 55), (none, (.bi .mul (.tmp 54) (.const (.int .i64 1440)))))
       (.one ((some 56), (none, (.mv (.tmp 7))))
       (.one ((some 57), (none, (.ixB 2 (.tmp 56) (.const (.int .i64 0)))))
       (.one ((some 58), (none, (.fa 0 (.tmp 57))))
       (.one ((some 59), (none, (.ld false (.tmp 58))))
       (.one ((some 60), (none, (.bi .add (.tmp 55) (.tmp 59))))
       (.one ((some 61), (none, (.mm false (.tmp 53) (.tmp 60))))
       (.one ((some 62), (none, (.fa 4 (.tmp 5))))
       (.one (none, (none, (.st 1 (.tmp 62) (.tmp 61))))
       .done)))))))))))))
  (.seq (.ord (.one ((some 63), (none, (.fa 5 (.tmp 5))))
       (.one ((some 64), (none, (.ld false (.tmp 63))))
       (.one ((some 65), (none, (.mv (.tmp 6))))
       (.one ((some 66), (none, (.bi .mul (.tmp 65) (.const (.int .i64 1440)))))
       (.one ((some 67), (none, (.mv (.tmp 7))))
       (.one ((some 68), (none, (.mv (.tmp 7))))
       (.one ((some 69), (none, (.lenB (.tmp 68))))
       (.one ((some 70), (none, (.bi .sub (.tmp 69) (.const (.int .i64 1)))))
       (.one ((some 71), (none, (.ixB 2 (.tmp 67) (.tmp 70))))
       (.one ((some 72), (none, (.fa 1 (.tmp 71))))
       (.one ((some 73), (none, (.ld false (.tmp 72))))
       (.one ((some 74), (none, (.bi .add (.tmp 66) (.tmp 73))))
       (.one ((some 75), (none, (.mm true (.tmp 64) (.tmp 74))))
       (.one ((some 76), (none, (.fa 5 (.tmp 5))))
       (.one (none, (none, (.st 1 (.tmp 76) (.tmp 75))))
       .done))))))))))))))))
  (.reg [((some 77), (none, (.fa 6 (.tmp 5)))),
       ((some 78), (none, (.ld true (.tmp 77)))),
       ((some 79), (none, (.mv (.tmp 7)))),
       ((some 80), (none, (.appB 2 16 [(.int .i64 0), (.int .i64 0)] 78 (.tmp 79)))),
       ((some 81), (none, (.callB f_authority_merged [(.tmp 80)]))),
       ((some 82), (none, (.fa 6 (.tmp 5)))),
       (none, (none, (.sts (.tmp 82) 81)))]))))
def authority_closed_BC_j2 (f_authority_Day : Nat) (f_authority_merged : Nat) : PC :=
  (.seq (.reg [((some 39), (none, (.ldA 8 (.tmp 1)))),
       ((some 40), (none, (.mv (.tmp 6)))),
       ((some 41), (none, (.callB f_authority_Day [(.tmp 39), (.tmp 40)]))),
       ((some 7), (none, (.steal 41)))])
  (.seq (.seq (.reg [((some 42), (none, (.mv (.tmp 7)))),
       ((some 43), (none, (.lenB (.tmp 42)))),
       ((some 44), (none, (.bi .eql (.tmp 43) (.const (.int .i64 0)))))])
  (.cond (.tmp 44)
       (.exit 1)
       .skip))
  (authority_closed_BC_j1 f_authority_merged)))
def authority_closed_BC_j3 (f_authority_Day : Nat) (f_authority_merged : Nat) : PC :=
  (.seq (.block 1 (.seq (.seq (.reg [((some 27), (none, (.mv (.tmp 6)))),
       ((some 28), (none, (.mv (.tmp 3)))),
       ((some 29), (none, (.bi .add (.tmp 28) (.const (.int .i64 8))))),
       ((some 30), (none, (.bi .gtr (.tmp 27) (.tmp 29)))),
       ((some 31), (none, (.mv (.tmp 30)))),
       ((some 32), ((some (31, true)), (.mv (.tmp 6)))),
       ((some 33), ((some (31, true)), (.mv (.tmp 4)))),
       ((some 34), ((some (31, true)), (.bi .sub (.tmp 33) (.const (.int .i64 8))))),
       ((some 35), ((some (31, true)), (.bi .lss (.tmp 32) (.tmp 34)))),
       ((some 36), (none, (.pick (.tmp 31) (.tmp 35) (.const (.bool false)))))])
  (.cond (.tmp 36)
       (.reg [((some 37), (none, (.mv (.tmp 4)))),
         ((some 38), (none, (.bi .sub (.tmp 37) (.const (.int .i64 8))))),
         ((some 6), (none, (.mv (.tmp 38))))])
       .skip))
  (authority_closed_BC_j2 f_authority_Day f_authority_merged)))
  (.reg [((some 25), (none, (.mv (.tmp 6)))),
      ((some 26), (none, (.bi .add (.tmp 25) (.const (.int .i64 1))))),
      ((some 6), (none, (.mv (.tmp 26))))]))
def authority_closed_BC_j4 (f_authority_none : Nat) : PC :=
  (.seq (.seq (.reg [((some 83), (none, (.fa 5 (.tmp 5)))),
    ((some 84), (none, (.ld false (.tmp 83)))),
    ((some 85), (none, (.bi .lss (.tmp 84) (.const (.int .i64 0))))),
    ((some 86), (none, (.mv (.tmp 85)))),
    ((some 87), ((some (86, false)), (.fa 1 (.tmp 5)))),
    ((some 88), ((some (86, false)), (.ld false (.tmp 87)))),
    ((some 89), ((some (86, false)), (.bi .eql (.tmp 88) (.const (.int .u64 0))))),
    ((some 90), (none, (.pick (.tmp 86) (.const (.bool true)) (.tmp 89)))),
    ((some 91), (none, (.mv (.tmp 90)))),
    ((some 92), ((some (91, false)), (.fa 2 (.tmp 5)))),
    ((some 93), ((some (91, false)), (.ld false (.tmp 92)))),
    ((some 94), ((some (91, false)), (.bi .eql (.tmp 93) (.const (.int .u64 0))))),
    ((some 95), (none, (.pick (.tmp 91) (.const (.bool true)) (.tmp 94))))])
  (.cond (.tmp 95)
    (.seq (.reg [((some 96), (none, (.callB f_authority_none []))),
      (none, (none, (.st 8 (.tmp 2) (.tmp 96))))])
  .ret)
    .skip))
  (.seq (.reg [((some 97), (none, (.ldA 8 (.tmp 5)))),
    (none, (none, (.st 8 (.tmp 2) (.tmp 97))))])
  .ret))
def authority_closed_BC (f_authority_Day : Nat) (f_authority_merged : Nat) (f_authority_none : Nat) : PC :=
  (.seq (.reg [((some 1), (none, (.box 8 (.tmp 0)))),
    ((some 2), (none, (.alloc [(.bool false), (.int .u64 0), (.int .u64 0), (.int .u64 0), (.int .i64 0), (.int .i64 0), (ns []), (.string ⟨#[]⟩)])))])
  (.seq (.drw [((some 8), (none, (.fa 4 (.tmp 1)))),
    ((some 9), (none, (.ld false (.tmp 8)))),
    ((some 10), (none, (.bi .quo (.tmp 9) (.const (.int .i64 1440))))),
    ((some 11), (none, (.fa 5 (.tmp 1)))),
    ((some 12), (none, (.ld false (.tmp 11)))),
    ((some 13), (none, (.bi .quo (.tmp 12) (.const (.int .i64 1440))))),
    ((some 3), (none, (.mv (.tmp 10)))),
    ((some 4), (none, (.mv (.tmp 13))))])
  (.seq (.reg [((some 14), (none, (.fa 1 (.tmp 1)))),
    ((some 15), (none, (.ld false (.tmp 14)))),
    ((some 16), (none, (.fa 2 (.tmp 1)))),
    ((some 17), (none, (.ld false (.tmp 16)))),
    ((some 18), (none, (.fa 7 (.tmp 1)))),
    ((some 19), (none, (.ld false (.tmp 18)))),
    ((some 20), (none, (.build [(.inl [(.bool false)]), (.inr ((.tmp 15), 1)), (.inr ((.tmp 17), 1)), (.inl [(.int .u64 0)]), (.inr ((.const (.int .i64 67108865)), 1)), (.inr ((.const (.int .i64 (-1))), 1)), (.inl [(ns [])]), (.inr ((.tmp 19), 1))]))),
    ((some 5), (none, (.alloc [(.bool false), (.int .u64 0), (.int .u64 0), (.int .u64 0), (.int .i64 0), (.int .i64 0), (ns []), (.string ⟨#[]⟩)]))),
    (none, (none, (.st 8 (.tmp 5) (.tmp 20))))])
  (.seq (.seq (.reg [((some 21), (none, (.mv (.tmp 3)))),
    ((some 6), (none, (.mv (.tmp 21))))])
  (.block 0 (.loop (.seq (.seq (.reg [((some 22), (none, (.mv (.tmp 6)))),
      ((some 23), (none, (.mv (.tmp 4)))),
      ((some 24), (none, (.bi .leq (.tmp 22) (.tmp 23))))])
  (.cond (.tmp 24)
      .skip
      (.exit 0)))
  (authority_closed_BC_j3 f_authority_Day f_authority_merged)))))
  (authority_closed_BC_j4 f_authority_none)))))
/-- macaroon/authority.equal: 59 slots, results [(.t 4)] -/
def authority_equalC (f_slices_Equal_api_Span_api_Span : Nat) : PC :=
  (.seq (.reg [((some 2), (none, (.box 8 (.tmp 0)))),
    ((some 3), (none, (.box 8 (.tmp 1)))),
    ((some 4), (none, (.mv (.const (.bool false)))))])
  (.seq (.reg [((some 5), (none, (.fa 0 (.tmp 2)))),
    ((some 6), (none, (.ld false (.tmp 5)))),
    ((some 7), (none, (.fa 0 (.tmp 3)))),
    ((some 8), (none, (.ld false (.tmp 7)))),
    ((some 9), (none, (.bb false (.tmp 6) (.tmp 8)))),
    ((some 10), (none, (.mv (.tmp 9)))),
    ((some 11), ((some (10, true)), (.fa 1 (.tmp 2)))),
    ((some 12), ((some (10, true)), (.ld false (.tmp 11)))),
    ((some 13), ((some (10, true)), (.fa 1 (.tmp 3)))),
    ((some 14), ((some (10, true)), (.ld false (.tmp 13)))),
    ((some 15), ((some (10, true)), (.bi .eql (.tmp 12) (.tmp 14)))),
    ((some 16), (none, (.pick (.tmp 10) (.tmp 15) (.const (.bool false))))),
    ((some 17), (none, (.mv (.tmp 16)))),
    ((some 18), ((some (17, true)), (.fa 2 (.tmp 2)))),
    ((some 19), ((some (17, true)), (.ld false (.tmp 18)))),
    ((some 20), ((some (17, true)), (.fa 2 (.tmp 3)))),
    ((some 21), ((some (17, true)), (.ld false (.tmp 20)))),
    ((some 22), ((some (17, true)), (.bi .eql (.tmp 19) (.tmp 21)))),
    ((some 23), (none, (.pick (.tmp 17) (.tmp 22) (.const (.bool false))))),
    ((some 24), (none, (.mv (.tmp 23)))),
    ((some 25), ((some (24, true)), (.fa 3 (.tmp 2)))),
    ((some 26), ((some (24, true)), (.ld false (.tmp 25)))),
    ((some 27), ((some (24, true)), (.fa 3 (.tmp 3)))),
    ((some 28), ((some (24, true)), (.ld false (.tmp 27)))),
    ((some 29), ((some (24, true)), (.bi .eql (.tmp 26) (.tmp 28)))),
    ((some 30), (none, (.pick (.tmp 24) (.tmp 29) (.const (.bool false))))),
    ((some 31), (none, (.mv (.tmp 30)))),
    ((some 32), ((some (31, true)), (.fa 4 (.tmp 2)))),
    ((some 33), ((some (31, true)), (.ld false (.tmp 32)))),
    ((some 34), ((some (31, true)), (.fa 4 (.tmp 3)))),
    ((some 35), ((some (31, true)), (.ld false (.tmp 34)))),
    ((some 36), ((some (31, true)), (.bi .eql (.tmp 33) (.tmp 35)))),
    ((some 37), (none, (.pick (.tmp 31) (.tmp 36) (.const (.bool false))))),
    ((some 38), (none, (.mv (.tmp 37)))),
    ((some 39), ((some (38, true)), (.fa 5 (.tmp 2)))),
    ((some 40), ((some (38, true)), (.ld false (.tmp 39)))),
    ((some 41), ((some (38, true)), (.fa 5 (.tmp 3)))),
    ((some 42), ((some (38, true)), (.ld false (.tmp 41)))),
    ((some 43), ((some (38, true)), (.bi .eql (.tmp 40) (.tmp 42)))),
    ((some 44), (none, (.pick (.tmp 38) (.tmp 43) (.const (.bool false))))),
    ((some 45), (none, (.mv (.tmp 44)))),
    ((some 46), ((some (45, true)), (.fa 7 (.tmp 2)))),
    ((some 47), ((some (45, true)), (.ld false (.tmp 46)))),
    ((some 48), ((some (45, true)), (.fa 7 (.tmp 3)))),
    ((some 49), ((some (45, true)), (.ld false (.tmp 48)))),
    ((some 50), ((some (45, true)), (.bi .eql (.tmp 47) (.tmp 49)))),
    ((some 51), (none, (.pick (.tmp 45) (.tmp 50) (.const (.bool false))))),
    ((some 52), (none, (.mv (.tmp 51)))),
    ((some 53), ((some (52, true)), (.fa 6 (.tmp 2)))),
    ((some 54), ((some (52, true)), (.ld false (.tmp 53)))),
    ((some 55), ((some (52, true)), (.fa 6 (.tmp 3)))),
    ((some 56), ((some (52, true)), (.ld false (.tmp 55)))),
    ((some 57), ((some (52, true)), (.call f_slices_Equal_api_Span_api_Span [(.tmp 54), (.tmp 56)]))),
    ((some 58), (none, (.pick (.tmp 52) (.tmp 57) (.const (.bool false))))),
    ((some 4), (none, (.mv (.tmp 58))))])
  .ret))
/-- macaroon/authority.none: 2 slots, results [(.cA 0 8)] -/
def authority_noneC (t_api_Span : Nat) : PC :=
  (.seq (.reg [((some 0), (none, (.alloc [(.bool false), (.int .u64 0), (.int .u64 0), (.int .u64 0), (.int .i64 0), (.int .i64 0), (lin t_api_Span []), (.string ⟨#[]⟩)])))])
  (.seq (.reg [((some 1), (none, (.build [(.inr ((.const (.bool true)), 1)), (.inl [(.int .u64 0)]), (.inl [(.int .u64 0)]), (.inl [(.int .u64 0)]), (.inl [(.int .i64 0)]), (.inl [(.int .i64 0)]), (.inl [(deep [])]), (.inl [(.string ⟨#[]⟩)])]))),
    (none, (none, (.st 8 (.tmp 0) (.tmp 1))))])
  .ret))
/-- macaroon/authority.name: 6 slots, results [(.t 2)] -/
def authority_nameC (f_predicate_Valid : Nat) : PC :=
  (.seq (.reg [((some 2), (none, (.mv (.const (.bool false)))))])
  (.seq (.reg [((some 3), (none, (.mv (.tmp 0)))),
    ((some 4), (none, (.build [(.inr ((.const (.int .i64 6)), 1)), (.inl [(.int .u64 0)]), (.inl [(.int .i64 0)]), (.inl [(.int .i64 0)]), (.inr ((.tmp 3), 1)), (.inl [(.int .i64 0)])]))),
    ((some 5), (none, (.call f_predicate_Valid [(.tmp 4)]))),
    ((some 2), (none, (.mv (.tmp 5))))])
  .ret))
/-- macaroon/authority.common: 46 slots, results [(.t 4)] -/
def authority_commonC_j1 (t_api_Span : Nat) : PC :=
  (.seq (.block 3 (.seq (.reg [((some 21), (none, (.ixS 2 (.tmp 17) (.tmp 19)))),
          ((some 22), (none, (.ldA 2 (.tmp 21)))),
          ((some 9), (none, (.alloc [(.int .i64 0), (.int .i64 0)]))),
          (none, (none, (.st 2 (.tmp 9) (.tmp 22))))])
  (.seq (.reg [((some 23), (none, (.fa 0 (.tmp 7)))),
          ((some 24), (none, (.ld false (.tmp 23)))),
          ((some 25), (none, (.fa 0 (.tmp 9)))),
          ((some 26), (none, (.ld false (.tmp 25)))),
          ((some 27), (none, (.mm true (.tmp 24) (.tmp 26)))),
          ((some 28), (none, (.fa 1 (.tmp 7)))),
          ((some 29), (none, (.ld false (.tmp 28)))),
          ((some 30), (none, (.fa 1 (.tmp 9)))),
          ((some 31), (none, (.ld false (.tmp 30)))),
          ((some 32), (none, (.mm false (.tmp 29) (.tmp 31)))),
          ((some 33), (none, (.build [(.inr ((.tmp 27), 1)), (.inr ((.tmp 32), 1))]))),
          ((some 10), (none, (.alloc [(.int .i64 0), (.int .i64 0)]))),
          (none, (none, (.st 2 (.tmp 10) (.tmp 33))))])
  (.seq (.reg [((some 34), (none, (.fa 0 (.tmp 10)))),
          ((some 35), (none, (.ld false (.tmp 34)))),
          ((some 36), (none, (.fa 1 (.tmp 10)))),
          ((some 37), (none, (.ld false (.tmp 36)))),
          ((some 38), (none, (.bi .leq (.tmp 35) (.tmp 37))))])
  (.cond (.tmp 38)
          (.reg [((some 39), (none, (.steal 5))),
            ((some 40), (none, (.ldA 2 (.tmp 10)))),
            ((some 41), (none, (.mks t_api_Span 2 false [(.tmp 40)]))),
            ((some 42), (none, (.app t_api_Span 2 16 39 (.tmp 41)))),
            ((some 5), (none, (.steal 42)))])
          .skip)))))
  (.reg [((some 43), (none, (.bi .add (.tmp 19) (.const (.int .i64 1))))),
         ((some 19), (none, (.mv (.tmp 43))))]))
def authority_commonC_j2 (t_api_Span : Nat) : PC :=
  (.seq (.block 1 (.seq (.reg [((some 15), (none, (.ixS 2 (.tmp 11) (.tmp 13)))),
       ((some 16), (none, (.ldA 2 (.tmp 15)))),
       ((some 7), (none, (.alloc [(.int .i64 0), (.int .i64 0)]))),
       (none, (none, (.st 2 (.tmp 7) (.tmp 16))))])
  (.seq (.reg [((some 17), (none, (.mv (.tmp 1)))),
       ((some 18), (none, (.len (.tmp 17)))),
       ((some 19), (none, (.mv (.const (.int .i64 0)))))])
  (.block 2 (.loop (.seq (.reg [((some 20), (none, (.bi .lss (.tmp 19) (.tmp 18))))])
  (.seq (.cond (.tmp 20)
         .skip
         (.exit 2))
  (authority_commonC_j1 t_api_Span))))))))
  (.reg [((some 44), (none, (.bi .add (.tmp 13) (.const (.int .i64 1))))),
      ((some 13), (none, (.mv (.tmp 44))))]))
def authority_commonC (t_api_Span : Nat) : PC :=
  (.seq (.reg [((some 4), (none, (.cnil t_api_Span)))])
  (.seq (.reg [((some 5), (none, (.cnil t_api_Span)))])
  (.seq (.seq (.reg [((some 11), (none, (.mv (.tmp 0)))),
    ((some 12), (none, (.len (.tmp 11)))),
    ((some 13), (none, (.mv (.const (.int .i64 0)))))])
  (.block 0 (.loop (.seq (.reg [((some 14), (none, (.bi .lss (.tmp 13) (.tmp 12))))])
  (.seq (.cond (.tmp 14)
      .skip
      (.exit 0))
  (authority_commonC_j2 t_api_Span))))))
  (.seq (.reg [((some 45), (none, (.steal 5))),
    ((some 4), (none, (.steal 45)))])
  .ret))))
/-- macaroon/authority.Day: 43 slots, results [(.t 4)] -/
def authority_DayC_j1 (t_api_Span : Nat) (f_authority_common : Nat) : PC :=
  (.seq (.reg [((some 26), (none, (.fa 6 (.tmp 2)))),
    ((some 27), (none, (.ld false (.tmp 26)))),
    ((some 28), (none, (.fa 4 (.tmp 2)))),
    ((some 29), (none, (.ld false (.tmp 28)))),
    ((some 30), (none, (.mv (.tmp 1)))),
    ((some 31), (none, (.bi .mul (.tmp 30) (.const (.int .i64 1440))))),
    ((some 32), (none, (.bi .sub (.tmp 29) (.tmp 31)))),
    ((some 33), (none, (.mm true (.tmp 32) (.const (.int .i64 0))))),
    ((some 34), (none, (.fa 5 (.tmp 2)))),
    ((some 35), (none, (.ld false (.tmp 34)))),
    ((some 36), (none, (.mv (.tmp 1)))),
    ((some 37), (none, (.bi .mul (.tmp 36) (.const (.int .i64 1440))))),
    ((some 38), (none, (.bi .sub (.tmp 35) (.tmp 37)))),
    ((some 39), (none, (.mm false (.tmp 38) (.const (.int .i64 1439))))),
    ((some 40), (none, (.build [(.inr ((.tmp 33), 1)), (.inr ((.tmp 39), 1))]))),
    ((some 41), (none, (.mks t_api_Span 2 false [(.tmp 40)]))),
    ((some 42), (none, (.call f_authority_common [(.tmp 27), (.tmp 41)]))),
    ((some 4), (none, (.steal 42)))])
  .ret)
def authority_DayC (t_api_Span : Nat) (f_authority_common : Nat) : PC :=
  (.seq (.reg [((some 2), (none, (.box 8 (.tmp 0)))),
    ((some 4), (none, (.cnil t_api_Span)))])
  (.seq (.seq (.reg [((some 5), (none, (.mv (.tmp 1)))),
    ((some 6), (none, (.fa 4 (.tmp 2)))),
    ((some 7), (none, (.ld false (.tmp 6)))),
    ((some 8), (none, (.bi .quo (.tmp 7) (.const (.int .i64 1440))))),
    ((some 9), (none, (.bi .lss (.tmp 5) (.tmp 8)))),
    ((some 10), (none, (.mv (.tmp 9)))),
    ((some 11), ((some (10, false)), (.mv (.tmp 1)))),
    ((some 12), ((some (10, false)), (.fa 5 (.tmp 2)))),
    ((some 13), ((some (10, false)), (.ld false (.tmp 12)))),
    ((some 14), ((some (10, false)), (.bi .quo (.tmp 13) (.const (.int .i64 1440))))),
    ((some 15), ((some (10, false)), (.bi .gtr (.tmp 11) (.tmp 14)))),
    ((some 16), (none, (.pick (.tmp 10) (.const (.bool true)) (.tmp 15)))),
    ((some 17), (none, (.mv (.tmp 16)))),
    ((some 18), ((some (17, false)), (.fa 3 (.tmp 2)))),
    ((some 19), ((some (17, false)), (.ld false (.tmp 18)))),
    ((some 20), ((some (17, false)), (.mv (.tmp 1)))),
    ((some 21), ((some (17, false)), (.bi .rem (.tmp 20) (.const (.int .i64 7))))),
    ((some 22), ((some (17, false)), (.bi .shr (.tmp 19) (.tmp 21)))),
    ((some 23), ((some (17, false)), (.bi .and (.tmp 22) (.const (.int .u64 1))))),
    ((some 24), ((some (17, false)), (.bi .eql (.tmp 23) (.const (.int .u64 0))))),
    ((some 25), (none, (.pick (.tmp 17) (.const (.bool true)) (.tmp 24))))])
  (.cond (.tmp 25)
    (.seq (.reg [((some 4), (none, (.cnil t_api_Span)))])
  .ret)
    .skip))
  (authority_DayC_j1 t_api_Span f_authority_common)))
/-- macaroon/authority.Contains$1: 18 slots, results [(.t 3)] -/
def authority_Contains_1C : PC :=
  (.seq (.reg [((some 2), (none, (.box 2 (.tmp 0)))),
    ((some 3), (none, (.mv (.const (.bool false)))))])
  (.seq (.reg [((some 4), (none, (.fa 2 (.tmp 1)))),
    ((some 5), (none, (.ld false (.tmp 4)))),
    ((some 6), (none, (.bi .rem (.tmp 5) (.const (.int .i64 1440))))),
    ((some 7), (none, (.fa 0 (.tmp 2)))),
    ((some 8), (none, (.ld false (.tmp 7)))),
    ((some 9), (none, (.bi .geq (.tmp 6) (.tmp 8)))),
    ((some 10), (none, (.mv (.tmp 9)))),
    ((some 11), ((some (10, true)), (.fa 2 (.tmp 1)))),
    ((some 12), ((some (10, true)), (.ld false (.tmp 11)))),
    ((some 13), ((some (10, true)), (.bi .rem (.tmp 12) (.const (.int .i64 1440))))),
    ((some 14), ((some (10, true)), (.fa 1 (.tmp 2)))),
    ((some 15), ((some (10, true)), (.ld false (.tmp 14)))),
    ((some 16), ((some (10, true)), (.bi .leq (.tmp 13) (.tmp 15)))),
    ((some 17), (none, (.pick (.tmp 10) (.tmp 16) (.const (.bool false))))),
    ((some 3), (none, (.mv (.tmp 17))))])
  .ret))
/-- macaroon/authority.daily: 18 slots, results [(.t 4)] -/
def authority_dailyC_j1 (t_api_Span : Nat) (f_authority_merged : Nat) : PC :=
  (.seq (.reg [((some 12), (none, (.mv (.tmp 1)))),
    ((some 13), (none, (.build [(.inr ((.const (.int .i64 0)), 1)), (.inr ((.tmp 12), 1))]))),
    ((some 14), (none, (.mv (.tmp 0)))),
    ((some 15), (none, (.build [(.inr ((.tmp 14), 1)), (.inr ((.const (.int .i64 1439)), 1))]))),
    ((some 16), (none, (.mks t_api_Span 2 false [(.tmp 13), (.tmp 15)]))),
    ((some 17), (none, (.call f_authority_merged [(.tmp 16)]))),
    ((some 4), (none, (.steal 17)))])
  .ret)
def authority_dailyC (t_api_Span : Nat) (f_authority_merged : Nat) : PC :=
  (.seq (.reg [((some 4), (none, (.cnil t_api_Span)))])
  (.seq (.seq (.reg [((some 5), (none, (.mv (.tmp 0)))),
    ((some 6), (none, (.mv (.tmp 1)))),
    ((some 7), (none, (.bi .leq (.tmp 5) (.tmp 6))))])
  (.cond (.tmp 7)
    (.seq (.reg [((some 8), (none, (.mv (.tmp 0)))),
      ((some 9), (none, (.mv (.tmp 1)))),
      ((some 10), (none, (.build [(.inr ((.tmp 8), 1)), (.inr ((.tmp 9), 1))]))),
      ((some 11), (none, (.mks t_api_Span 2 true [(.tmp 10)]))),
      ((some 4), (none, (.steal 11)))])
  .ret)
    .skip))
  (authority_dailyC_j1 t_api_Span f_authority_merged)))
/-- macaroon/authority.merged: 58 slots, results [(.t 2)] -/
def authority_merged_BC_j1 (t_api_Span : Nat) : PC :=
  (.seq (.block 1 (.seq (.reg [((some 20), (none, (.ixB 2 (.tmp 16) (.tmp 18)))),
       ((some 21), (none, (.ldA 2 (.tmp 20)))),
       ((some 6), (none, (.alloc [(.int .i64 0), (.int .i64 0)]))),
       (none, (none, (.st 2 (.tmp 6) (.tmp 21))))])
  (.seq (.reg [((some 22), (none, (.mv (.tmp 4)))),
       ((some 23), (none, (.lenB (.tmp 22)))),
       ((some 7), (none, (.mv (.tmp 23))))])
  (.seq (.drw [((some 24), (none, (.mv (.tmp 7)))),
       ((some 25), (none, (.bi .gtr (.tmp 24) (.const (.int .i64 0))))),
       ((some 26), (none, (.mv (.tmp 25)))),
       ((some 27), ((some (26, true)), (.fa 0 (.tmp 6)))),
       ((some 28), ((some (26, true)), (.ld false (.tmp 27)))),
       ((some 29), ((some (26, true)), (.mv (.tmp 4)))),
       ((some 30), ((some (26, true)), (.mv (.tmp 7)))),
       ((some 31), ((some (26, true)), (.bi .sub (.tmp 30) (.const (.int .i64 1))))),
       ((some 32), ((some (26, true)), (.ixB 2 (.tmp 29) (.tmp 31)))),
       ((some 33), ((some (26, true)), (.fa 1 (.tmp 32)))),
       ((some 34), ((some (26, true)), (.ld false (.tmp 33)))),
       ((some 35), ((some (26, true)), (.bi .add (.tmp 34) (.const (.int .i64 1))))),
       ((some 36), ((some (26, true)), (.bi .leq (.tmp 28) (.tmp 35)))),
       ((some 37), (none, (.pick (.tmp 26) (.tmp 36) (.const (.bool false)))))])
  (.cond (.tmp 37)
       (.ord (.one ((some 38), (none, (.mv (.tmp 4))))
         (.one ((some 39), (none, (.mv (.tmp 7))))
         (.one ((some 40), (none, (.bi .sub (.tmp 39) (.const (.int .i64 1)))))
         (.one ((some 41), (none, (.mv (.tmp 4))))
         (.one ((some 42), (none, (.mv (.tmp 7))))
         (.one ((some 43), (none, (.bi .sub (.tmp 42) (.const (.int .i64 1)))))
         (.one ((some 44), (none, (.ixB 2 (.tmp 41) (.tmp 43))))
         (.one ((some 45), (none, (.fa 1 (.tmp 44))))
         (.one ((some 46), (none, (.ld false (.tmp 45))))
         (.one ((some 47), (none, (.fa 1 (.tmp 6))))
         (.one ((some 48), (none, (.ld false (.tmp 47))))
         (.one ((some 49), (none, (.mm true (.tmp 46) (.tmp 48))))
         (.one ((some 50), (none, (.ixB 2 (.tmp 38) (.tmp 40))))
         (.one ((some 51), (none, (.fa 1 (.tmp 50))))
         (.one (none, (none, (.st 1 (.tmp 51) (.tmp 49))))
         .done))))))))))))))))
       (.reg [((some 52), (none, (.steal 4))),
         ((some 53), (none, (.ldA 2 (.tmp 6)))),
         ((some 54), (none, (.mks t_api_Span 2 false [(.tmp 53)]))),
         ((some 55), (none, (.appB 2 16 [(.int .i64 0), (.int .i64 0)] 52 (.tmp 54)))),
         ((some 4), (none, (.steal 55)))]))))))
  (.reg [((some 56), (none, (.bi .add (.tmp 18) (.const (.int .i64 1))))),
      ((some 18), (none, (.mv (.tmp 56))))]))
def authority_merged_BC (f_slices_SortFunc_api_Span_api_Span : Nat) (f_authority_merged_1 : Nat) (t_api_Span : Nat) : PC :=
  (.seq (.reg [((some 2), (none, .cns))])
  (.seq (.reg [((some 8), (none, (.mv (.tmp 0)))),
    ((some 9), (none, (.lenB (.tmp 8)))),
    ((some 10), (none, (.mkB 2 16 [(.int .i64 0), (.int .i64 0)] (.tmp 9) (.tmp 9)))),
    ((some 3), (none, (.steal 10)))])
  (.seq (.reg [((some 11), (none, (.mv (.tmp 3)))),
    ((some 12), (none, (.mv (.tmp 0)))),
    ((some 13), (none, (.cpy 2 (.tmp 11) (.tmp 12))))])
  (.seq (.reg [((some 14), (none, (.mv (.tmp 3)))),
    ((some 15), (none, (.callB f_slices_SortFunc_api_Span_api_Span [(.tmp 14), (.func f_authority_merged_1)])))])
  (.seq (.reg [((some 4), (none, .cns))])
  (.seq (.seq (.reg [((some 16), (none, (.mv (.tmp 3)))),
    ((some 17), (none, (.lenB (.tmp 16)))),
    ((some 18), (none, (.mv (.const (.int .i64 0)))))])
  (.block 0 (.loop (.seq (.reg [((some 19), (none, (.bi .lss (.tmp 18) (.tmp 17))))])
  (.seq (.cond (.tmp 19)
      .skip
      (.exit 0))
  (authority_merged_BC_j1 t_api_Span))))))
  (.seq (.reg [((some 57), (none, (.steal 4))),
    ((some 2), (none, (.steal 57)))])
  .ret)))))))
/-- macaroon/authority.merged$1: 10 slots, results [(.t 4)] -/
def authority_merged_1C : PC :=
  (.seq (.reg [((some 2), (none, (.box 2 (.tmp 0)))),
    ((some 3), (none, (.box 2 (.tmp 1)))),
    ((some 4), (none, (.mv (.const (.int .i64 0)))))])
  (.seq (.reg [((some 5), (none, (.fa 0 (.tmp 2)))),
    ((some 6), (none, (.ld false (.tmp 5)))),
    ((some 7), (none, (.fa 0 (.tmp 3)))),
    ((some 8), (none, (.ld false (.tmp 7)))),
    ((some 9), (none, (.bi .sub (.tmp 6) (.tmp 8)))),
    ((some 4), (none, (.mv (.tmp 9))))])
  .ret))
/-- slices.ContainsFunc[[]macaroon/api.Span,macaroon/api.Span]: 9 slots, results [(.t 4)] -/
def slices_ContainsFunc_api_Span_api_SpanC (f_slices_IndexFunc_api_Span_api_Span : Nat) : PC :=
  (.seq (.reg [((some 4), (none, (.mv (.const (.bool false)))))])
  (.seq (.reg [((some 5), (none, (.mv (.tmp 0)))),
    ((some 6), (none, (.mv (.tmp 1)))),
    ((some 7), (none, (.call f_slices_IndexFunc_api_Span_api_Span [(.tmp 5), (.tmp 6)]))),
    ((some 8), (none, (.bi .geq (.tmp 7) (.const (.int .i64 0))))),
    ((some 4), (none, (.mv (.tmp 8))))])
  .ret))
/-- slices.IndexFunc[[]macaroon/api.Span,macaroon/api.Span]: 19 slots, results [(.t 4)] -/
def slices_IndexFunc_api_Span_api_SpanC_j1 : PC :=
  (.seq (.block 1 (.seq (.reg [((some 10), (none, (.mv (.tmp 8)))),
       ((some 5), (none, (.mv (.tmp 10))))])
  (.seq (.reg [((some 11), (none, (.mv (.tmp 1)))),
       ((some 12), (none, (.mv (.tmp 0)))),
       ((some 13), (none, (.mv (.tmp 5)))),
       ((some 14), (none, (.ixS 2 (.tmp 12) (.tmp 13)))),
       ((some 15), (none, (.ldA 2 (.tmp 14)))),
       ((some 16), (none, (.callv (.tmp 11) [(.tmp 15)])))])
  (.cond (.tmp 16)
       (.seq (.reg [((some 17), (none, (.mv (.tmp 5)))),
         ((some 4), (none, (.mv (.tmp 17))))])
  .ret)
       .skip))))
  (.reg [((some 18), (none, (.bi .add (.tmp 8) (.const (.int .i64 1))))),
      ((some 8), (none, (.mv (.tmp 18))))]))
def slices_IndexFunc_api_Span_api_SpanC : PC :=
  (.seq (.reg [((some 4), (none, (.mv (.const (.int .i64 0)))))])
  (.seq (.seq (.reg [((some 6), (none, (.mv (.tmp 0)))),
    ((some 7), (none, (.len (.tmp 6)))),
    ((some 8), (none, (.mv (.const (.int .i64 0)))))])
  (.block 0 (.loop (.seq (.reg [((some 9), (none, (.bi .lss (.tmp 8) (.tmp 7))))])
  (.seq (.cond (.tmp 9)
      .skip
      (.exit 0))
  slices_IndexFunc_api_Span_api_SpanC_j1)))))
  (.seq (.reg [((some 4), (none, (.mv (.const (.int .i64 (-1))))))])
  .ret)))
/-- slices.Equal[[]macaroon/api.Span,macaroon/api.Span]: 26 slots, results [(.t 4)] -/
def slices_Equal_api_Span_api_SpanC_j1 : PC :=
  (.seq (.block 1 (.seq (.reg [((some 15), (none, (.mv (.tmp 13)))),
       ((some 5), (none, (.mv (.tmp 15))))])
  (.seq (.drw [((some 16), (none, (.mv (.tmp 0)))),
       ((some 17), (none, (.mv (.tmp 5)))),
       ((some 18), (none, (.ixS 2 (.tmp 16) (.tmp 17)))),
       ((some 19), (none, (.ldA 2 (.tmp 18)))),
       ((some 20), (none, (.mv (.tmp 1)))),
       ((some 21), (none, (.mv (.tmp 5)))),
       ((some 22), (none, (.ixS 2 (.tmp 20) (.tmp 21)))),
       ((some 23), (none, (.ldA 2 (.tmp 22)))),
       ((some 24), (none, (.eqA true [(.int .i64), (.int .i64)] (.tmp 19) (.tmp 23))))])
  (.cond (.tmp 24)
       (.seq (.reg [((some 4), (none, (.mv (.const (.bool false)))))])
  .ret)
       .skip))))
  (.reg [((some 25), (none, (.bi .add (.tmp 13) (.const (.int .i64 1))))),
      ((some 13), (none, (.mv (.tmp 25))))]))
def slices_Equal_api_Span_api_SpanC_j2 : PC :=
  (.seq (.seq (.reg [((some 11), (none, (.mv (.tmp 0)))),
    ((some 12), (none, (.len (.tmp 11)))),
    ((some 13), (none, (.mv (.const (.int .i64 0)))))])
  (.block 0 (.loop (.seq (.reg [((some 14), (none, (.bi .lss (.tmp 13) (.tmp 12))))])
  (.seq (.cond (.tmp 14)
      .skip
      (.exit 0))
  slices_Equal_api_Span_api_SpanC_j1)))))
  (.seq (.reg [((some 4), (none, (.mv (.const (.bool true)))))])
  .ret))
def slices_Equal_api_Span_api_SpanC : PC :=
  (.seq (.reg [((some 4), (none, (.mv (.const (.bool false)))))])
  (.seq (.seq (.reg [((some 6), (none, (.mv (.tmp 0)))),
    ((some 7), (none, (.len (.tmp 6)))),
    ((some 8), (none, (.mv (.tmp 1)))),
    ((some 9), (none, (.len (.tmp 8)))),
    ((some 10), (none, (.bi .neq (.tmp 7) (.tmp 9))))])
  (.cond (.tmp 10)
    (.seq (.reg [((some 4), (none, (.mv (.const (.bool false)))))])
  .ret)
    .skip))
  slices_Equal_api_Span_api_SpanC_j2))
end Go.PE
namespace Go.PE
open Go
def Spn.cells (x : Spn) : List Value := [.int .i64 x.f, .int .i64 x.t]
def Spn.v (x : Spn) : Value := PE.ag x.cells
@[simp] theorem Spn.len (x : Spn) : x.cells.length = 2 := _root_.id rfl
@[simp] theorem Spn.dg1s (x : Spn) : x.cells.map dg1 = x.cells := _root_.id rfl
@[simp] theorem Spn.dgv (x : Spn) : dg x.v = x.v := _root_.id rfl
@[simp] theorem Spn.dg1v (x : Spn) : dg1 x.v = x.v := _root_.id rfl
@[simp] theorem Spn.dgTv (x : Spn) : dgT x.v = x.v := _root_.id rfl
@[simp] theorem Spn.cellsOf (x : Spn) : PE.cellsOf x.v = some x.cells := _root_.id rfl
@[simp] theorem Spn.lcv (x : Spn) : lc x.v = x.cells := _root_.id rfl
@[simp] theorem Spn.asAgv (x : Spn) : asAg x.v = some x.cells := _root_.id rfl
@[simp] theorem Spn.take2 (x : Spn) : x.cells.take 2 = x.cells := _root_.id rfl
@[simp] theorem Spn.drop2 (x : Spn) : x.cells.drop 2 = [] := _root_.id rfl
@[simp] theorem Spn.get0 (x : Spn) : x.cells[0]? = some (.int .i64 x.f) := _root_.id rfl
@[simp] theorem Spn.get1 (x : Spn) : x.cells[1]? = some (.int .i64 x.t) := _root_.id rfl
@[simp] theorem Spn.getE0 (x : Spn) (h : 0 < x.cells.length) : x.cells[0] = .int .i64 x.f := _root_.id rfl
@[simp] theorem Spn.getE1 (x : Spn) (h : 1 < x.cells.length) : x.cells[1] = .int .i64 x.t := _root_.id rfl
theorem Spn.ag (x : Spn) : PE.ag x.cells = x.v := rfl
theorem Spn.mk_v (f t : Int) : PE.ag [.int .i64 f, .int .i64 t] = (Spn.mk f t).v := rfl
def spEl : El Spn := ⟨Spn.cells, Spn.v, 2, fun _ => rfl, Spn.len, Spn.dg1s⟩
theorem elem_spn {l : List Spn} {n : Int} (h0 : 0 ≤ n) (hn : n.toNat < l.length) : elemAt (l.map Spn.v) n 2 = some (dptr 0 l[n.toNat].cells) := elemAt_map h0 hn rfl (by simp)
def Aut.cells (a : Aut) : List Value := [.bool a.none, .int .u64 a.zones, .int .u64 a.lines, .int .u64 a.days, .int .i64 a.fr, .int .i64 a.to, deep (a.daily.map Spn.v), .string a.holder]
def Aut.v (a : Aut) : Value := PE.ag a.cells
@[simp] theorem Aut.len (x : Aut) : x.cells.length = 8 := _root_.id rfl
@[simp] theorem Aut.dg1s (x : Aut) : x.cells.map dg1 = x.cells := _root_.id rfl
@[simp] theorem Aut.dgv (x : Aut) : dg x.v = x.v := _root_.id rfl
@[simp] theorem Aut.dg1v (x : Aut) : dg1 x.v = x.v := _root_.id rfl
@[simp] theorem Aut.dgTv (x : Aut) : dgT x.v = x.v := _root_.id rfl
@[simp] theorem Aut.cellsOf (x : Aut) : PE.cellsOf x.v = some x.cells := _root_.id rfl
@[simp] theorem Aut.lcv (x : Aut) : lc x.v = x.cells := _root_.id rfl
@[simp] theorem Aut.asAgv (x : Aut) : asAg x.v = some x.cells := _root_.id rfl
@[simp] theorem Aut.take8 (x : Aut) : x.cells.take 8 = x.cells := _root_.id rfl
@[simp] theorem Aut.drop8 (x : Aut) : x.cells.drop 8 = [] := _root_.id rfl
@[simp] theorem Aut.get0 (x : Aut) : x.cells[0]? = some (.bool x.none) := _root_.id rfl
@[simp] theorem Aut.get1 (x : Aut) : x.cells[1]? = some (.int .u64 x.zones) := _root_.id rfl
@[simp] theorem Aut.get2 (x : Aut) : x.cells[2]? = some (.int .u64 x.lines) := _root_.id rfl
@[simp] theorem Aut.get3 (x : Aut) : x.cells[3]? = some (.int .u64 x.days) := _root_.id rfl
@[simp] theorem Aut.get4 (x : Aut) : x.cells[4]? = some (.int .i64 x.fr) := _root_.id rfl
@[simp] theorem Aut.get5 (x : Aut) : x.cells[5]? = some (.int .i64 x.to) := _root_.id rfl
@[simp] theorem Aut.get6 (x : Aut) : x.cells[6]? = some (deep (x.daily.map Spn.v)) := _root_.id rfl
@[simp] theorem Aut.get7 (x : Aut) : x.cells[7]? = some (.string x.holder) := _root_.id rfl
@[simp] theorem Aut.getE0 (x : Aut) (h : 0 < x.cells.length) : x.cells[0] = .bool x.none := _root_.id rfl
@[simp] theorem Aut.getE1 (x : Aut) (h : 1 < x.cells.length) : x.cells[1] = .int .u64 x.zones := _root_.id rfl
@[simp] theorem Aut.getE2 (x : Aut) (h : 2 < x.cells.length) : x.cells[2] = .int .u64 x.lines := _root_.id rfl
@[simp] theorem Aut.getE3 (x : Aut) (h : 3 < x.cells.length) : x.cells[3] = .int .u64 x.days := _root_.id rfl
@[simp] theorem Aut.getE4 (x : Aut) (h : 4 < x.cells.length) : x.cells[4] = .int .i64 x.fr := _root_.id rfl
@[simp] theorem Aut.getE5 (x : Aut) (h : 5 < x.cells.length) : x.cells[5] = .int .i64 x.to := _root_.id rfl
@[simp] theorem Aut.getE6 (x : Aut) (h : 6 < x.cells.length) : x.cells[6] = deep (x.daily.map Spn.v) := _root_.id rfl
@[simp] theorem Aut.getE7 (x : Aut) (h : 7 < x.cells.length) : x.cells[7] = .string x.holder := _root_.id rfl
theorem Aut.ag (x : Aut) : PE.ag x.cells = x.v := rfl
theorem wApp_one {α : Type} {f : α → Value} {l : List α} {x : α} {e size bytes t : Nat} {d : Option Nat} {s : PS} {K : PS → Prop} (hf : ∀ a, (lc (f a)).length = size) (h1 : l.length + 1 ≤ maxLen) (h2 : (l.length + 1) * bytes ≤ 140737488355328) (hK : K ((s.put t (deep (l.map f))).putO d (lin e ((l ++ [x]).map f)))) : wApp (lin e (l.map f)) (some [f x]) e size bytes t d s K :=
  ⟨l.map f, [f x], .inl rfl, rfl, fun y hy => by obtain ⟨a, _, rfl⟩ := List.mem_map.1 hy; exact hf a, fun y hy => by simp at hy; subst hy; exact hf x, by simpa using h1, by simpa using h2, by simpa using hK⟩
def CommonOK (P : Program) (f tS : Nat) : Prop := ∀ (a b : List Spn), a.length ≤ 1000000 → b.length ≤ 1000000 → ∀ (H : Nat → Option (List Value)) (nx : Nat), PCalls P f [deep (a.map Spn.v), deep (b.map Spn.v)] H nx (fun _ => False) (fun r H' _ => r = lin tS ((commonL a b).map Spn.v) ∧ H' = H)
theorem flat_le {α : Type} (f : α → List Spn) (n : Nat) : ∀ l : List α, (∀ x ∈ l, (f x).length ≤ n) → (l.flatMap f).length ≤ l.length * n
  | [], _ => by simp
  | x :: l, h => by
    have := flat_le f n l fun y hy => h y (by simp [hy])
    have := h x (by simp)
    simp only [List.flatMap_cons, List.length_append, List.length_cons, Nat.add_mul]; omega
theorem meet1_len (x y : Spn) : (meet1 x y).length ≤ 1 := by unfold meet1; split <;> simp
theorem common_len (a b : List Spn) : (commonL a b).length ≤ a.length * b.length := flat_le _ _ _ fun x _ => by
  have := flat_le (fun y => meet1 x y) 1 b fun y _ => meet1_len x y
  simpa using this
theorem common_ok {P : Program} {f tS : Nat} (hc : compFn P f = some (46, authority_commonC tS, [.t 4])) : CommonOK P f tS := by
  intro a b ha hb H nx
  refine PCalls_of hc (by simp) fun hw => ?_
  have hmx : (maxLen : Int) = 9223372036854775807 := rfl
  simp [authority_commonC]
  refine wpc_loop _ _ _ _ _ _ (fun s => ∃ i : Nat, i ≤ a.length ∧ s.t 0 = deep (a.map Spn.v) ∧ s.t 1 = deep (b.map Spn.v) ∧ s.t 5 = lin tS ((commonL (a.take i) b).map Spn.v) ∧ s.t 11 = deep (a.map Spn.v) ∧ s.t 12 = .int .i64 a.length ∧ s.t 13 = .int .i64 i ∧ nx ≤ s.nx ∧ Own nx H s.H)
    (fun s => match s.t 13 with | .int _ i => (a.length - i).toNat | _ => 0) _ ⟨0, by omega, by simp, by simp, by simp [commonL], by simp, by simp, by simp, by simp, by simp⟩ ?_
  rintro ⟨T, H', nx'⟩ ⟨i, hi, e0, e1, e5, e11, e12, e13, hnx, hown⟩
  simp only at e0 e1 e5 e11 e12 e13 hnx hown
  simp [e12, e13]
  refine wB_of (fun hlt => ?_) (fun hlt => ?_)
  · simp at hlt
    have he := elem_spn (l := a) (n := (i : Int)) (by omega) (by simpa using hlt)
    simp at he
    have hw1 := w64 (x := (i : Int) + 1) (by omega) (by omega)
    have htk : commonL (a.take (i + 1)) b = commonL (a.take i) b ++ b.flatMap fun y => meet1 a[i] y := by
      unfold commonL
      rw [List.take_succ_eq_append_getElem hlt, List.flatMap_append]; simp
    have hcl : (commonL (a.take i) b).length ≤ 1000000 * 1000000 := by
      have := common_len (a.take i) b
      have h2 : (a.take i).length ≤ 1000000 := by simp; omega
      exact Nat.le_trans this (Nat.mul_le_mul h2 hb)
    generalize a[i] = x at he htk
    simp [authority_commonC_j2, e0, e1, e5, e11, e13, he, hnx, Spn.ag]
    refine wpc_loop _ _ _ _ _ _ (fun s => ∃ j : Nat, j ≤ b.length ∧ s.t 0 = deep (a.map Spn.v) ∧ s.t 1 = deep (b.map Spn.v) ∧ s.t 5 = lin tS ((commonL (a.take i) b ++ (b.take j).flatMap fun y => meet1 x y).map Spn.v) ∧ s.t 7 = ptr nx' 0 ∧ s.t 11 = deep (a.map Spn.v) ∧ s.t 12 = .int .i64 a.length ∧ s.t 13 = .int .i64 i ∧
        s.t 17 = deep (b.map Spn.v) ∧ s.t 18 = .int .i64 b.length ∧ s.t 19 = .int .i64 j ∧ nx' < s.nx ∧ Own nx H s.H ∧ s.H nx' = some x.cells)
      (fun s => match s.t 19 with | .int _ j => (b.length - j).toNat | _ => 0) _ ⟨0, by omega, by simp [e0], by simp [e1], by simp [e5], by simp, by simp [e11], by simp [e12], by simp [e13], by simp, by simp, by simp, by simp, by simp [hown, hnx], by simp⟩ ?_
    rintro ⟨t, H2, n2⟩ ⟨j, hj, f0, f1, f5, f7, f11, f12, f13, f17, f18, f19, hn2, hown2, hHx⟩
    simp only at f0 f1 f5 f7 f11 f12 f13 f17 f18 f19 hn2 hown2 hHx
    simp [f18, f19]
    refine wB_of (fun hlt2 => ?_) (fun hlt2 => ?_)
    · simp at hlt2
      have he2 := elem_spn (l := b) (n := (j : Int)) (by omega) (by simpa using hlt2)
      simp at he2
      have hw2 := w64 (x := (j : Int) + 1) (by omega) (by omega)
      have hfl : ((b.take j).flatMap fun y => meet1 x y).length ≤ 1000000 := by
        have := flat_le (fun y => meet1 x y) 1 (b.take j) fun y _ => meet1_len x y
        simp at this ⊢; omega
      have htk2 : ((b.take (j + 1)).flatMap fun y => meet1 x y) = ((b.take j).flatMap fun y => meet1 x y) ++ meet1 x b[j] := by
        rw [List.take_succ_eq_append_getElem hlt2, List.flatMap_append]; simp
      generalize b[j] = y at he2 htk2
      generalize ((b.take j).flatMap fun y => meet1 x y) = g at f5 hfl htk2
      have k1 : ¬ nx' = n2 := by omega
      have k2 : ¬ nx' = n2 + 1 := by omega
      have k3 : ¬ n2 = n2 + 1 := by omega
      have hm1 : ∀ u v : Int, (if u < v then v else u) = max u v := fun u v => by split <;> omega
      have hm2 : ∀ u v : Int, (if v < u then v else u) = min u v := fun u v => by split <;> omega
      simp [authority_commonC_j1, f5, f7, f17, f19, he2, hHx, k1, k2, k3, show nx ≤ n2 by omega, show nx ≤ n2 + 1 by omega, hm1, hm2, Spn.mk_v]
      have hsz : ∀ (l m : List Spn) (y : Value), ((∃ a_1, a_1 ∈ l ∧ a_1.v = y) ∨ ∃ a, a ∈ m ∧ a.v = y) → (lc y).length = 2 := fun l m y hy => by
        rcases hy with ⟨z, _, rfl⟩ | ⟨z, _, rfl⟩ <;> rfl
      refine wB_of (fun hc1 => ?_) (fun hc1 => ?_)
      · simp at hc1
        have hme : meet1 x y = [⟨max x.f y.f, min x.t y.t⟩] := by unfold meet1; rw [if_pos (by omega)]
        refine ⟨hsz _ _, by unfold maxLen; omega, by omega, ?_⟩
        rw [hw2]
        exact kLoop_nrm _ _ _ _ (Sub_refl _ _) ⟨j + 1, by omega, by simp [f0], by simp [f1], by simp [htk2, hme, Spn.ag], by simp [f7], by simp [f11], by simp [f12], by simp [f13], by simp [f17], by simp [f18], by simp, by simp; omega, by simp [hown2, show nx ≤ n2 by omega, show nx ≤ n2 + 1 by omega], by simp [hHx, k1, k2]⟩ (by simp; omega)
      · simp at hc1
        have hme : meet1 x y = [] := by unfold meet1; rw [if_neg (by omega)]
        rw [hw2]
        exact kLoop_nrm _ _ _ _ (Sub_refl _ _) ⟨j + 1, by omega, by simp [f0], by simp [f1], by simp [htk2, hme, f5], by simp [f7], by simp [f11], by simp [f12], by simp [f13], by simp [f17], by simp [f18], by simp, by simp; omega, by simp [hown2, show nx ≤ n2 by omega, show nx ≤ n2 + 1 by omega], by simp [hHx, k1, k2]⟩ (by simp; omega)
    · simp at hlt2
      have hja : j = b.length := by omega
      subst hja
      rw [List.take_length] at f5
      simp [f13, hw1]
      exact kLoop_nrm _ _ _ _ (Sub_refl _ _) ⟨i + 1, by omega, by simp [f0], by simp [f1], by simp [f5, htk], by simp [f11], by simp [f12], by simp, by simp; omega, by simpa using hown2⟩ (by simp; omega)
  · simp at hlt
    have hia : i = a.length := by omega
    subst hia
    rw [List.take_length] at e5
    simp [e5]
    exact wF_own hw hown ⟨rfl, rfl⟩
/-- the minutes of a day that an authority permits -/
def dayL (a : Aut) (d : Int) : List Spn := if d < a.fr / 1440 ∨ a.to / 1440 < d ∨ tb a.days (d % 7).toNat = false then [] else commonL a.daily [⟨max (a.fr - d * 1440) 0, min (a.to - d * 1440) 1439⟩]
theorem dayL_inS {a : Aut} {d k : Int} (hd : ∀ j, inS a.daily j → 0 ≤ j ∧ j < 1440) : inS (dayL a d) k ↔ a.S (d * 1440 + k) ∧ 0 ≤ k ∧ k < 1440 := by
  have hw : 0 ≤ k → k < 1440 → wk (d * 1440 + k) = (d % 7).toNat := fun h0 h1 => by unfold wk; congr 2; omega
  have hk : 0 ≤ k → k < 1440 → (d * 1440 + k) % 1440 = k := fun h0 h1 => by omega
  unfold dayL Aut.S Tm
  split
  · rename_i h
    constructor
    · intro h; exact absurd h (inS_nil _)
    · rintro ⟨⟨h1, h2, h3, h4⟩, h5, h6⟩
      rw [hw h5 h6] at h3
      rcases h with h | h | h
      · omega
      · omega
      · rw [h] at h3; cases h3
  · rename_i h
    rw [inS_common, inS_cons]
    have hn := inS_nil k
    simp only [not_or, Bool.not_eq_false] at h
    constructor
    · rintro ⟨h1, h2 | h2⟩
      · have := hd k h1
        simp only at h2
        refine ⟨⟨by omega, by omega, by rw [hw this.1 this.2]; exact h.2.2, by rw [hk this.1 this.2]; exact h1⟩, this.1, this.2⟩
      · exact absurd h2 hn
    · rintro ⟨⟨h1, h2, h3, h4⟩, h5, h6⟩
      rw [hk h5 h6] at h4
      exact ⟨h4, .inl ⟨by simp only; omega, by simp only; omega⟩⟩
theorem dayL_canon {a : Aut} {d : Int} (h : canon (-1) a.daily) : canon (-1) (dayL a d) := by
  unfold dayL
  split
  · trivial
  · exact canon_common1 _ h
def minR (n : Int) : Prop := -9000000000000000 ≤ n ∧ n ≤ 9000000000000000
def DayOK (P : Program) (f tS : Nat) : Prop := ∀ (a : Aut) (d : Int), a.daily.length ≤ 1000000 → isU64 a.days → 0 ≤ a.fr → a.fr ≤ 67108864 → 0 ≤ a.to → a.to ≤ 67108864 → -100000 ≤ d → d ≤ 100000 → ∀ (H : Nat → Option (List Value)) (nx : Nat),
    PCalls P f [a.v, .int .i64 d] H nx (fun _ => False) (fun r H' _ => r = lin tS ((dayL a d).map Spn.v) ∧ H' = H)
theorem day_ok {P : Program} {f tS co : Nat} (hc : compFn P f = some (43, authority_DayC tS co, [.t 4])) (hco : CommonOK P co tS) : DayOK P f tS := by
  intro a d hal hdu hf0 hf1 ht0 ht1 hd0 hd1 H nx
  refine PCalls_of hc (by simp) fun hw => ?_
  have hmx : (maxLen : Int) = 9223372036854775807 := rfl
  have q1 : a.fr.tdiv 1440 = a.fr / 1440 := Int.tdiv_eq_ediv_of_nonneg hf0
  have q2 : a.to.tdiv 1440 = a.to / 1440 := Int.tdiv_eq_ediv_of_nonneg ht0
  have hw1 := w64 (x := a.fr / 1440) (by omega) (by omega)
  have hw2 := w64 (x := a.to / 1440) (by omega) (by omega)
  by_cases h1 : d < a.fr / 1440
  · simp [authority_DayC, q1, q2, hw1, hw2, h1]
    exact wF_own hw (by simp) ⟨by simp [dayL, h1], rfl⟩
  by_cases h2 : a.to / 1440 < d
  · simp [authority_DayC, q1, q2, hw1, hw2, h1, h2]
    exact wF_own hw (by simp) ⟨by simp [dayL, h2], rfl⟩
  have h0 : 0 ≤ d := by omega
  have q3 : d.tmod 7 = d % 7 := Int.tmod_eq_emod_of_nonneg h0
  have q4 : min (d % 7).toNat 64 = (d % 7).toNat := by omega
  have q5 := shr_and1 hdu (d % 7).toNat
  have q6 : IntKind.u64.bits = 64 := rfl
  cases hb : tb a.days (d % 7).toNat with
  | false =>
    rw [hb] at q5
    simp [authority_DayC, q1, q2, hw1, hw2, h1, h2, q3, show 0 ≤ d % 7 by omega, q4, q5, q6]
    exact wF_own hw (by simp) ⟨by simp [dayL, hb], rfl⟩
  | true =>
    rw [hb] at q5
    have w1 := w64 (x := d * 1440) (by omega) (by omega)
    have w2 := w64 (x := a.fr - d * 1440) (by omega) (by omega)
    have w3 := w64 (x := a.to - d * 1440) (by omega) (by omega)
    have hm1 : ∀ u v : Int, (if u < v then v else u) = max u v := fun u v => by split <;> omega
    have hm2 : ∀ u v : Int, (if v < u then v else u) = min u v := fun u v => by split <;> omega
    simp [authority_DayC, authority_DayC_j1, q1, q2, hw1, hw2, h1, h2, q3, show 0 ≤ d % 7 by omega, q4, q5, q6, w1, w2, w3, hm1, hm2, Spn.mk_v]
    refine wCall_eq (Q := fun r => r = lin tS ((commonL a.daily [⟨max (a.fr - d * 1440) 0, min (a.to - d * 1440) 1439⟩]).map Spn.v)) (hco a.daily [⟨max (a.fr - d * 1440) 0, min (a.to - d * 1440) 1439⟩] hal (by simp) _ _) fun r n1 hr hn1 => ?_
    subst hr
    simp
    exact wF_own hw (by simp) ⟨by simp [dayL, h1, h2, hb], rfl⟩
end Go.PE
namespace Go.PE
open Go
open Go.Sort (PermIn SortedIn SWO)
/-- a row of a box is turned, blocks are laid behind -/
theorem left_row {P : Program} {G : Gh} {own : Nat → Option Pos} {k b nx : Nat} {H : Nat → Option (List Value)} {row row' : List Value} {cs cs' : Array Value} {e : TypeId} {w' : World} (hE : Entry P (fun j => j = k) H nx own G) (hk : H k = some row) (hb : G.be k = some b)
    (hh : G.w.heap[b]? = some (.cells cs e (0, 0))) (hh' : w'.heap[b]? = some (.cells cs' e (0, 0))) (ho : ∀ b', b' ≠ b → b' < G.w.heap.size → w'.heap[b']? = G.w.heap[b']?) (hsz : G.w.heap.size ≤ w'.heap.size)
    (hos : w'.os = G.w.os) (htp : w'.tape = G.w.tape) (hou : w'.output = G.w.output) (hs : cs'.size = row'.length) (hr : ∀ (i : Nat) v p, cs'[i]? = some v → row'[i]? = some p → v.oneCell' = true ∧ Rd G v p) (hl : ∀ (i : Nat) e xs, row'[i]? ≠ some (lin e xs)) :
    Left ⟨P, G, fun j => j = k, nx, 0, H⟩ own (upd H k (some row')) nx { G with w := w' } (.tuple #[]) (tup []) := by
  have hkn : k < nx := by
    rcases Nat.lt_or_ge k nx with h | h
    · exact h
    · have : H k = none := hE.heap.nxH k h
      rw [hk] at this; cases this
  have hbl := hE.heap.be_lt hb
  have hfr0 : G.fr b = 0 := hbl.2.2 (.inl rfl)
  have hext : Ext G { G with w := w' } := by
    refine ⟨Nat.le_refl _, fun ad _ hf u hu => ?_, fun b _ => Nat.le_refl _, fun k b hk _ => .inl hk, fun k hk _ => hk⟩
    have hlt := World.block_lt_of_cell? _ ad hu
    show w'.cell? ad = some u
    rw [World.cell?_of_block (ho _ (fun e => by rw [e, hfr0] at hf; omega) hlt)]; exact hu
  have hturn : ∀ b', b' < G.w.heap.size → (∀ k, G.be k ≠ some b') → w'.heap[b']? = G.w.heap[b']? ∧ G.fr b' = G.fr b' ∧ ∀ k, G.be k ≠ some b' := fun b' hlt hk' =>
    ⟨ho b' (fun e => hk' k (by rw [e]; exact hb)) hlt, rfl, hk'⟩
  refine ⟨⟨⟨fun j r hj => ?_, fun j hj => ?_, fun j hj => ?_, hE.heap.nx, Nat.le_refl _, hE.heap.inj, hE.heap.gl, hE.heap.ng, fun g pos hg => Nat.lt_of_lt_of_le (hE.heap.ol g pos hg) hsz⟩, fun _ _ => rfl, fun b' hb' hT' => ?_, hsz, hos, htp, hou, fun base j i e' xs hob hp => ?_, fun j hj hT' => ?_⟩, .tuple [] [] rfl (fun i v p hv => by simp at hv), fun e xs h => by simp [tup, lin] at h, fun i e xs h => by simp [comp, tup, undef, lin] at h⟩
  · by_cases hjk : j = k
    · subst hjk
      obtain rfl : row' = r := by simpa using hj
      exact ⟨b, e, cs', (0, 0), hb, hh', hs, fun i v p hv hp => ⟨(hr i v p hv hp).1, (hr i v p hv hp).2.mono hext⟩, fun _ => ⟨hfr0, rfl⟩, fun h => by have h : nx ≤ j := h; omega⟩
    · have hj' : H j = some r := by rw [← upd_ne H (some row') hjk]; exact hj
      obtain ⟨b₁, e₁, cs₁, fz₁, hb₁, hh₁, hs₁, hr₁, hf₁, hB₁⟩ := hE.heap.ob j r hj'
      have hne : b₁ ≠ b := fun e => hjk (hE.heap.inj j k b₁ hb₁ (by rw [e]; exact hb))
      exact ⟨b₁, e₁, cs₁, fz₁, hb₁, by show w'.heap[b₁]? = _; rw [ho b₁ hne (hE.heap.be_lt hb₁).2.1]; exact hh₁, hs₁, fun i v p hv hp => ⟨(hr₁ i v p hv hp).1, (hr₁ i v p hv hp).2.mono hext⟩, hf₁, fun h => by
        have h : nx ≤ j := h
        have : H j = none := hE.heap.nxH j h
        rw [hj'] at this; cases this⟩
  · by_cases hjk : j = k
    · subst hjk
      have hj : upd H j (some row') j = none := hj
      simp at hj
    · exact hE.heap.bn j (by show H j = none; rw [← upd_ne H (some row') hjk]; exact hj)
  · have hjk : j ≠ k := fun e => by have hj : nx ≤ j := hj; omega
    show upd H k (some row') j = none
    rw [upd_ne _ _ hjk]; exact hE.heap.nxH j hj
  · have hne : b' ≠ b := by
      rintro rfl
      exact hT' k hb rfl
    exact ⟨ho b' hne hb', rfl⟩
  · by_cases hjk : j = k
    · subst hjk
      have hp' : row'.getD i undef = lin e' xs := by simpa [pcell] using hp
      exact absurd (getD_some hp' (lin_ne_undef _ _)) (hl i e' xs)
    · have hp' : pcell H j i = lin e' xs := by
        have : pcell (upd H k (some row')) j i = lin e' xs := hp
        simp only [pcell, upd_ne H (some row') hjk] at this
        exact this
      have hb0 : base = 0 := by
        rcases hob with h | ⟨h | h, _⟩
        · exact h
        · exact absurd h hjk
        · have h : nx ≤ j := h
          have := hE.heap.nxH j h
          have hH : H j = none := this
          simp [pcell, hH, undef, lin] at hp'
      subst hb0
      have hrc : rcell { G with w := w' } j i = rcell G j i := by
        simp only [rcell]
        cases hbj : G.be j with
        | none => rfl
        | some b₁ =>
          have hne : b₁ ≠ b := fun e => hjk (hE.heap.inj j k b₁ hbj (by rw [e]; exact hb))
          simp only
          rw [World.cell?_of_block (a := ⟨b₁, i, none⟩) (ho b₁ hne (hE.heap.be_lt hbj).2.1)]
      rw [hrc]
      exact (hE.ctok j i e' xs hp').turn hturn (fun _ hg => hg)
  · exact upd_ne _ _ hT'
/-! the sort -/
abbrev SpnB : Type := { s : Spn // 0 ≤ s.f ∧ s.f < 1152921504606846976 }
instance : Inhabited SpnB := ⟨⟨⟨0, 0⟩, by decide⟩⟩
def encB (x : SpnB) : List Value := x.1.cells
def fx (x : SpnB) : Int := x.1.f
def cfB (x y : SpnB) : Int := fx x - fx y
theorem ltB (x y : SpnB) : Go.Proofs.ltOf cfB x y = decide (fx x < fx y) := by
  unfold Go.Proofs.ltOf cfB
  generalize fx x = u
  generalize fx y = v
  by_cases h : u < v
  · simp [h]; omega
  · simp [h]; omega
theorem swoB : SWO (Go.Proofs.ltOf cfB) where
  irrefl x := by rw [ltB]; simp
  trans x y z h1 h2 := by
    rw [ltB] at *
    generalize fx x = u at *
    generalize fx y = v at *
    generalize fx z = w at *
    simp at *; omega
  ntrans x y z h1 h2 := by
    rw [ltB] at *
    generalize fx x = u at *
    generalize fx y = v at *
    generalize fx z = w at *
    simp at *; omega
def SortOK (P : Program) (f g : Nat) : Prop := ∀ (l : List Spn) (k : Nat) (H : Nat → Option (List Value)) (nx : Nat), (∀ s ∈ l, 0 ≤ s.f ∧ s.f < 1152921504606846976) → l.length < 4611686018427387904 → H k = some (l.flatMap Spn.cells) →
    PCalls P f [slc k 0 l.length l.length, clo g [] []] H nx (fun j => j = k) (fun p H' nx' => p = tup [] ∧ nx' = nx ∧ ∃ l' : List Spn, l'.Perm l ∧ l'.Pairwise (fun a b => a.f ≤ b.f) ∧ H' = upd H k (some (l'.flatMap Spn.cells)))
theorem row_spn (l : List Spn) (t : Nat) (h : t < l.length * 2) : (l.flatMap Spn.cells)[t]? = some (if t % 2 = 0 then .int .i64 (l[t / 2]'(by omega)).f else .int .i64 (l[t / 2]'(by omega)).t) := by
  have := fl_get Spn.cells 2 Spn.len [] (l := l) (i := t / 2) (o := t % 2) (by omega) (by omega)
  rw [List.append_nil, show t / 2 * 2 + t % 2 = t by omega] at this
  rw [this]
  have h2 : t % 2 = 0 ∨ t % 2 = 1 := by omega
  rcases h2 with h2 | h2 <;> rw [h2] <;> rfl
theorem arr_get! {α : Type} [Inhabited α] (l : List α) (i : Nat) (h : i < l.length) : l.toArray[i]! = l[i] := by
  rw [getElem!_pos l.toArray i (by simpa using h)]; simp
theorem flat_get (l : List SpnB) (t : Nat) (h : t < l.length * 2) : ((l.map (·.1)).flatMap Spn.cells)[t]? = some ((Go.Sort.flatK encB 2 l.toArray)[t]!) := by
  rw [Go.Sort.get_flatK encB 2 l.toArray t (by simpa using h), row_spn _ _ (by simpa using h), arr_get! l (t / 2) (by omega)]
  have h2 : t % 2 = 0 ∨ t % 2 = 1 := by omega
  rcases h2 with h2 | h2 <;> rw [h2] <;> simp [encB, Spn.cells]
theorem sort_pc {P : Program} {ρ : Go.Shelf.Ren} {g : Nat} (L : Go.Proofs.SlLaysF0.n6 P ρ) (aE : ∀ w, (isAgg (ρ.t 24)).run P w = .ok true w) (zE : ∀ w, (Go.sizeOf (ρ.t 24)).run P w = .ok 2 w) (eg : ∀ args w, (callFunc g args).run P w = .ok (.enter g args) w)
    (hcmp : ∀ (x y : Spn) (W : World), Calls P g #[.agg x.cells.toArray, .agg y.cells.toArray] W fun e w' => e = .returned (.int .i64 (IntKind.i64.wrap (x.f - y.f))) ∧ ∃ q os', w' = Go.Sort.grow (W.drewN q) os') : SortOK P (ρ.f 6) g := by
  intro l k H nx hb hlen hk G own vs hE hvl hrd
  match vs, hvl with
  | [v1, v2], _ =>
    have h1 := hrd 0 v1 _ rfl rfl
    have h2 := hrd 1 v2 _ rfl rfl
    obtain ⟨b, rfl, hnc, hkn, hbe⟩ := slc_rd h1
    obtain ⟨us, ws, rfl, hu, hw, _, _⟩ := clo_rd h2
    obtain rfl : us = [] := List.length_eq_zero_iff.1 hu
    obtain rfl : ws = [] := List.length_eq_zero_iff.1 hw
    obtain ⟨b', e', cs, fz, hb', hh, hsize, hcells, hW, hBB⟩ := hE.heap.ob k _ hk
    obtain ⟨hfr, rfl⟩ := hW (.inl rfl)
    have hbb : b' = b := by
      rcases hbe with hbe | hbe
      · rw [hb'] at hbe; exact Option.some.inj hbe
      · rw [hb'] at hbe; cases hbe
    subst hbb
    obtain ⟨d, hd⟩ : ∃ d : List SpnB, d = l.pmap Subtype.mk hb := ⟨_, rfl⟩
    have hdl : d.map (·.1) = l := by rw [hd]; simp [List.map_pmap]
    have hdn : d.length = l.length := by rw [hd]; simp
    have hcs : ∀ t, t < d.length * 2 → cs[t]? = some ((Go.Sort.flatK encB 2 d.toArray)[t]!) := fun t ht => by
      have h3 := flat_get d t ht
      rw [hdl] at h3
      have hlt : t < cs.size := by
        have := (List.getElem?_eq_some_iff.1 h3).1
        rw [hsize]; exact this
      have h4 := hcells t cs[t] _ (Array.getElem?_eq_getElem hlt) h3
      have hpl : plain ((Go.Sort.flatK encB 2 d.toArray)[t]!) = true := by
        rw [Go.Sort.get_flatK encB 2 d.toArray t (by simpa using ht), arr_get! d (t / 2) (by omega)]
        have h2 : t % 2 = 0 ∨ t % 2 = 1 := by omega
        rcases h2 with h2 | h2 <;> rw [h2] <;> rfl
      rw [Array.getElem?_eq_getElem hlt, plain_eq h4.2 hpl]
    have hsz2 : cs.size = d.length * 2 := by rw [hsize, fl_len Spn.cells 2 Spn.len, hdn]
    have hH : Go.Sort.HoldsK encB 2 G.w b' 0 d.toArray := by
      intro j hj
      have hj' : j < d.length * 2 := by simpa using hj
      constructor
      · rw [Nat.zero_add, cell_of_row _ _ _ _ _ _ hh]
        exact hcs j hj'
      · unfold World.frozen?
        simp [hh]
    have hcon := Go.Proofs.AnyQ.slices_SortFunc L 2 aE zE encB (fun x => Spn.len x.1) (fun x v hv => by simp [encB, Spn.cells] at hv; rcases hv with rfl | rfl <;> rfl) cfB swoB g #[] b' 0 l.length d.toArray G.w eg
      (fun m os dk _ x y => (hcmp x.1 y.1 _).mono fun e w' he => by
        obtain ⟨rfl, q, os', rfl⟩ := he
        refine ⟨?_, q, os', rfl⟩
        have hx := x.2; have hy := y.2
        show Ending.returned _ = Ending.returned _
        rw [w64 (x := x.1.f - y.1.f) (by omega) (by omega)]; rfl) hH (by have := (hE.heap.be_lt hb').2.1; exact this) (by simpa [hdn] using hlen)
    rw [show d.toArray.size = l.length by simp [hdn]] at hcon
    refine hcon.mono fun e w' hp => ?_
    obtain ⟨rfl, d', n, os, hperm, hsort, rfl⟩ := hp
    obtain ⟨hps, _, hpp⟩ := hperm
    have hds : d'.size = l.length := by rw [hps]; simp [hdn]
    rw [show l.length = d'.size from hds.symm, Array.extract_size] at hpp
    rw [show d'.size = d.toArray.size by simp [hdn, hds], Array.extract_size] at hpp
    have hdt : d'.toList.length = l.length := by simp [hds]
    have hpl : (d'.toList.map (·.1)).Perm l := by
      have := hpp.map (·.1)
      rw [show (d.toArray.toList.map (·.1)) = l from hdl] at this
      exact this
    have hsrt : (d'.toList.map (·.1)).Pairwise (fun a b => a.f ≤ b.f) := by
      rw [List.pairwise_map, List.pairwise_iff_getElem]
      intro i j hi hj hij
      have h5 := hsort i j (Nat.zero_le _) hij (by rw [← hdt]; exact hj)
      rw [ltB, getElem!_pos d' i (by simpa using hi), getElem!_pos d' j (by simpa using hj)] at h5
      simp only [decide_eq_false_iff_not] at h5
      have h6 : ¬ fx d'.toList[j] < fx d'.toList[i] := by simpa using h5
      show fx _ ≤ fx _
      omega
    have hrow : ∀ t, t < l.length * 2 → ((d'.toList.map (·.1)).flatMap Spn.cells)[t]? = some ((Go.Sort.flatK encB 2 d')[t]!) := fun t ht => by
      have := flat_get d'.toList t (by rw [hdt]; exact ht)
      simpa using this
    have hpc : (Go.Sort.putCells id 0 (Go.Sort.flatK encB 2 d') cs).size = cs.size := by simp [Go.Sort.putCells]
    refine ⟨.tuple #[], tup [], { G with w := Go.Proofs.sortWorldK encB 2 G.w b' 0 n d' os }, own, upd H k (some ((d'.toList.map (·.1)).flatMap Spn.cells)), nx, rfl, rfl, left_row hE hk hb' hh (cs' := Go.Sort.putCells id 0 (Go.Sort.flatK encB 2 d') cs) ?_ ?_ ?_ rfl rfl rfl ?_ ?_ ?_, rfl, rfl, _, hpl, hsrt, rfl⟩
    · show ((G.w.heap.modify b' _) ++ os)[b']? = _
      rw [Array.getElem?_append_left (by simpa using (hE.heap.be_lt hb').2.1), Array.getElem?_modify, if_pos rfl, hh]
      rfl
    · intro c hne hlt
      show ((G.w.heap.modify b' _) ++ os)[c]? = _
      rw [Array.getElem?_append_left (by simpa using hlt), Array.getElem?_modify, if_neg (Ne.symm hne)]
    · show _ ≤ ((G.w.heap.modify b' _) ++ os).size
      simp
    · rw [hpc, hsz2, hdn, fl_len Spn.cells 2 Spn.len]; simp [hds]
    · intro i v p hv hp
      have hi : i < l.length * 2 := by
        have := (Array.getElem?_eq_some_iff.1 hv).1
        rw [hpc, hsz2, hdn] at this; exact this
      rw [hrow i hi] at hp
      obtain rfl := Option.some.inj hp
      have hv2 : v = (Go.Sort.flatK encB 2 d')[i]! := by
        unfold Go.Sort.putCells at hv
        rw [Array.getElem?_mapIdx] at hv
        obtain ⟨x, _, hx⟩ := Option.map_eq_some_iff.1 hv
        rw [if_pos ⟨Nat.zero_le _, by rw [Go.Sort.size_flatK, hds]; omega⟩] at hx
        rw [← hx]; rfl
      rw [hv2]
      have hsc : PE.scal ((Go.Sort.flatK encB 2 d')[i]!) = true ∧ ((Go.Sort.flatK encB 2 d')[i]!).oneCell' = true := by
        rw [Go.Sort.get_flatK encB 2 d' i (by rw [hds]; exact hi), getElem!_pos d' (i / 2) (by rw [hds]; omega)]
        have h2 : i % 2 = 0 ∨ i % 2 = 1 := by omega
        rcases h2 with h2 | h2 <;> rw [h2] <;> exact ⟨rfl, rfl⟩
      exact ⟨hsc.2, .scal _ hsc.1⟩
    · intro i e2 xs hp
      have hi : i < l.length * 2 := by
        have := (List.getElem?_eq_some_iff.1 hp).1
        rw [fl_len Spn.cells 2 Spn.len] at this
        simpa [hds] using this
      rw [hrow i hi, Go.Sort.get_flatK encB 2 d' i (by rw [hds]; exact hi), getElem!_pos d' (i / 2) (by rw [hds]; omega)] at hp
      have h2 : i % 2 = 0 ∨ i % 2 = 1 := by omega
      rcases h2 with h2 | h2 <;> rw [h2] at hp <;> simp [encB, Spn.cells, lin] at hp
end Go.PE
namespace Go.PE
open Go
theorem rowNoLin_dg {row : List Value} (h : row.map dg1 = row) : rowNoLin row := fun i e xs he => by
  have hi : (row.map dg1).getD i undef = lin e xs := by rw [h]; exact he
  rw [List.getD_eq_getElem?_getD, List.getElem?_map] at hi
  cases hr : row[i]? with
  | none => rw [hr] at hi; simp [undef, lin] at hi
  | some v => rw [hr] at hi; exact dg1_ne_lin v e xs (by simpa using hi)
theorem wAppB_base {T : Nat → Prop} {n0 n1 : Nat} {v : Value} {src : Option (Nat × List Value)} {size bytes : Nat} {zero : List Value} {d : Option Nat} {s : PS} {K : PS → Prop} (h : n0 ≤ n1) (hw : wAppB T n1 v src size bytes zero d s K) : wAppB T n0 v src size bytes zero d s K := by
  obtain ⟨m, cells, e, hw⟩ := hw
  refine ⟨m, cells, e, hw.imp id ?_⟩
  rintro ⟨k, off, n, cap, row, a1, a2, a3, a4, a5, a6⟩
  exact ⟨k, off, n, cap, row, a1, a2, a3, a4, a5.imp id (fun h5 => by omega), a6⟩
def okS (l : List Spn) : Prop := ∀ s ∈ l, 0 ≤ s.f ∧ s.f ≤ s.t ∧ s.t < 1152921504606846976
def MergedOK (P : Program) (f : Nat) : Prop := ∀ (l : List Spn), okS l → l.length ≤ 1000000 → ∀ (H : Nat → Option (List Value)) (nx : Nat),
    PCalls P f [deep (l.map Spn.v)] H nx (fun _ => False) (fun r H' nx' => ∃ l' : List Spn, canon (-1) l' ∧ (∀ k, inS l' k ↔ inS l k) ∧ l'.length ≤ l.length ∧ Bx spEl nx H H' nx' r l')
theorem spn_cut (l : List Spn) (rest : List Value) {i : Nat} (hi : i < l.length) : ((l.flatMap Spn.cells ++ rest).drop (i * 2)).take 2 = l[i].cells := by
  have := fl_cut Spn.cells 2 Spn.len rest (i := i) (o := 0) (n := 2) hi (by omega)
  simpa using this
theorem mrg_ix {out : List Spn} {o : List Spn} {x : Spn} (h : out = o ++ [x]) (rest : List Value) : (out.flatMap Spn.cells ++ rest)[(out.length - 1) * 2 + 1]? = some (.int .i64 x.t) := by
  subst h
  have := fl_get Spn.cells 2 Spn.len rest (l := o ++ [x]) (i := (o ++ [x]).length - 1) (o := 1) (by simp) (by omega)
  rw [this]
  simp
section
variable {P : Program} {tS n0 : Nat}
/-- one step of the loop -/
theorem mrg_j1 {T : Nat → Value} {H Hs : Nat → Option (List Value)} {nx n1 k i : Nat} {l out : List Spn} {v : Value} {Q : Ex → PS → Prop} (h0 : n0 ≤ n1) (hk : k < n1) (hi : i < l.length) (hlen : l.length ≤ 1000000) (hok : okS l) (hsort : l.Pairwise (fun a b => a.f ≤ b.f))
    (e4 : T 4 = v) (e16 : T 16 = slc k 0 l.length l.length) (e18 : T 18 = .int .i64 i) (hHk : Hs k = some (l.flatMap Spn.cells)) (hB : Bx spEl n1 Hs H nx v out) (hM : Mrg (-1) (l.take i) out) (hol : out.length ≤ i)
    (hK : ∀ t' H' n' v' out', (∀ u, u ∈ [16, 17] → t' u = T u) → t' 4 = v' → t' 18 = .int .i64 (i + 1 : Nat) → Bx spEl n1 Hs H' n' v' out' → Mrg (-1) (l.take (i + 1)) out' → out'.length ≤ i + 1 → Q .nrm ⟨t', H', n'⟩) :
    wpc (PCalls P) P (fun _ => False) n0 (authority_merged_BC_j1 tS) Q ⟨T, H, nx⟩ := by
  have hmx : (maxLen : Int) = 9223372036854775807 := rfl
  have hn1 := hB.le
  have hHk2 : H k = some (l.flatMap Spn.cells) := (hB.own k hk).trans hHk
  have hcut := spn_cut l [] hi
  rw [List.append_nil] at hcut
  have hfl := fl_len Spn.cells 2 Spn.len (l := l)
  have hsok := hok l[i] (List.getElem_mem hi)
  have htk : l.take (i + 1) = l.take i ++ [l[i]] := List.take_succ_eq_append_getElem hi
  have hle : ∀ z ∈ l.take i, z.f ≤ l[i].f := fun z hz => by
    obtain ⟨j, hj, rfl⟩ := List.getElem_of_mem hz
    rw [List.getElem_take]
    have hj' : j < i := by simp at hj; omega
    exact List.pairwise_iff_getElem.1 hsort j i (by omega) hi hj'
  generalize l[i] = s at hcut hsok htk hle
  have k1 : ¬ k = nx := by omega
  have hlv := hB.len
  have hw1 := w64 (x := (i : Int) + 1) (by omega) (by omega)
  have hel : elemV (slc k 0 l.length l.length) (i : Int) 2 = some (ptr k (i * 2)) := by simp [elemV, hi]
  have hdg : List.map dg1 (l.flatMap Spn.cells) = l.flatMap Spn.cells := El.dgs (E := spEl) l
  have hmin : min 2 (l.length * 2 - i * 2) = 2 := by omega
  have hown2 : Own n1 Hs (upd H nx (some s.cells)) := by rw [own_upd hn1]; exact hB.own
  have hB2 : Bx spEl n1 Hs (upd H nx (some s.cells)) (nx + 1) v out := by
    obtain ⟨b1, b2, b3⟩ := hB
    refine ⟨hown2, by omega, b3.imp id ?_⟩
    rintro ⟨k2, cap, rest, a1, a2, a3, a4⟩
    exact ⟨k2, cap, rest, a1, a2, by omega, by rw [upd_ne _ _ (by omega)]; exact a4⟩
  rcases List.eq_nil_or_concat out with rfl | ⟨o, x, hox⟩
  · simp [authority_merged_BC_j1, e4, e16, e18, hi, hHk2, hfl, hcut, show i * 2 + 2 ≤ l.length * 2 by omega, k1, show n0 ≤ nx by omega, hlv, Spn.ag, hmin, hdg]
    refine wAppB_base h0 (Bx.app (E := spEl) (bytes := 16) (zero := [.int .i64 0, .int .i64 0]) (l := [s]) (m := []) hB2 rfl rfl (by simp [maxLen]) (by simp) fun v' H3 nx3 hB3 => ?_)
    simp [e18, hw1]
    exact hK _ _ _ v' [s] (fun u hu => by simp at hu; rcases hu with rfl | rfl <;> rfl) (by simp) (by simp) (by simpa using hB3) (by
      have h3 : l.take i = [] := by
        cases hl : l.take i with
        | nil => rfl
        | cons z r =>
          have := (hM.s z.f).2 (by rw [hl]; exact ⟨z, by simp, Int.le_refl _, (hok z (List.mem_of_mem_take (by rw [hl]; simp : z ∈ l.take i))).2.1⟩)
          exact absurd this (inS_nil _)
      rw [htk, h3]; exact Mrg.one (by omega) hsok.2.1) (by simp)
  · rw [List.concat_eq_append] at hox
    have hpos : 0 < out.length := by rw [hox]; simp
    obtain ⟨k2, cap, rest, rfl, a2, a3, a4, a5, a6, a7⟩ := hB2.at hpos
    have hix := mrg_ix hox rest
    have a4' : H k2 = some (out.flatMap Spn.cells ++ rest) := by
      by_cases e : k2 = nx
      · exfalso
        obtain ⟨k3, cap3, rest3, b1, b2, b3, b4, _⟩ := hB.at hpos
        have : k2 = k3 := by
          have := congrArg asSlc b1
          simp at this
          exact this.1
        omega
      · rw [upd_ne _ _ e] at a4; exact a4
    have k2n : ¬ k2 = nx := by
      intro e
      obtain ⟨k3, cap3, rest3, b1, b2, b3, b4, _⟩ := hB.at hpos
      have : k2 = k3 := by
        have := congrArg asSlc b1
        simp at this
        exact this.1
      omega
    have hwl := w64 (x := (out.length : Int) - 1) (by omega) (by omega)
    have hnat : ((out.length : Int) - 1).toNat = out.length - 1 := by omega
    have hxt : 0 ≤ x.t ∧ x.t < 1152921504606846976 := by
      have hc := canon_mem hM.c (show x ∈ out by rw [hox]; simp)
      obtain ⟨z, hz, hz1, hz2⟩ := (hM.s x.t).1 ⟨x, by rw [hox]; simp, hc.2, Int.le_refl _⟩
      have := hok z (List.mem_of_mem_take hz)
      omega
    have hwt := w64 (x := x.t + 1) (by omega) (by omega)
    have hp1 : (1 : Int) ≤ out.length := by omega
    have hp2 : (out.length : Int) - 1 < out.length := by omega
    have hel2 : elemV (slc k2 0 out.length cap) ((out.length : Int) - 1) 2 = some (ptr k2 ((out.length - 1) * 2)) := by
      have : (out.length : Int) - 1 = ((out.length - 1 : Nat) : Int) := by omega
      rw [this]; simp [elemV]; omega
    have hfl2 := fl_len Spn.cells 2 Spn.len (l := out)
    have hm1 : ∀ u v : Int, (if u < v then v else u) = max u v := fun u v => by split <;> omega
    have hrl : (out.length - 1) * 2 + 1 < (out.flatMap Spn.cells ++ rest).length := by rw [List.length_append, hfl2]; omega
    by_cases hc : s.f ≤ x.t + 1
    · simp [authority_merged_BC_j1, e4, e16, e18, hi, hHk2, hfl, hcut, show i * 2 + 2 ≤ l.length * 2 by omega, k1, show n0 ≤ nx by omega, hlv, Spn.ag, hmin, hdg, hpos, hp1, hp2, hwl, k2n, a4', hix, hwt, hc, hm1, hfl2, -List.length_flatMap]
      refine ⟨by rw [List.length_append, hfl2] at hrl; omega, by omega, ?_⟩
      have hbs := Bx.set (E := spEl) (n0 := n1) (H0 := Hs) (m := out) (k := k2) (cap := cap) (i := out.length - 1) (o := 1) (rest := rest) (vs := [.int .i64 (max x.t s.t)]) (a := ⟨x.f, max x.t s.t⟩) hown2 a2 a3 a5 a6 a7 (by omega) (by simp [spEl]) (by
        have : out[out.length - 1] = x := by simp [hox]
        rw [this]; rfl) rfl
      simp [e18, hw1]
      have hset : out.set (out.length - 1) ⟨x.f, max x.t s.t⟩ = o ++ [⟨x.f, max x.t s.t⟩] := by
        rw [hox]
        rw [List.set_append_right _ _ (by simp)]
        simp
      rw [hset] at hbs
      have hlo : (o ++ [(⟨x.f, max x.t s.t⟩ : Spn)]).length = out.length := by rw [hox]; simp
      refine hK _ _ _ (slc k2 0 out.length cap) (o ++ [⟨x.f, max x.t s.t⟩]) (fun u hu => by simp at hu; rcases hu with rfl | rfl <;> rfl) (by simp [e4]) (by simp) ?_ (by
        rw [htk]
        rw [hox] at hM
        exact hM.ext hsok.2.1 hle hc) (by rw [hlo]; omega)
      have h9 := hbs
      simp [spEl] at h9
      exact h9
    · simp [authority_merged_BC_j1, e4, e16, e18, hi, hHk2, hfl, hcut, show i * 2 + 2 ≤ l.length * 2 by omega, k1, show n0 ≤ nx by omega, hlv, Spn.ag, hmin, hdg, hpos, hp1, hp2, hwl, k2n, a4', hix, hwt, hc]
      refine wAppB_base h0 (Bx.app (E := spEl) (bytes := 16) (zero := [.int .i64 0, .int .i64 0]) (l := [s]) (m := out) hB2 rfl rfl (by simp [maxLen]; omega) (by simp; omega) fun v' H3 nx3 hB3 => ?_)
      simp [e18, hw1]
      exact hK _ _ _ v' (out ++ [s]) (fun u hu => by simp at hu; rcases hu with rfl | rfl <;> rfl) (by simp) (by simp) (by simpa using hB3) (by
        rw [htk, hox]
        rw [hox] at hM
        exact hM.new hsok.2.1 hle (by omega)) (by simp; omega)
end
theorem okS_perm {l l' : List Spn} (h : okS l) (hp : l'.Perm l) : okS l' := fun s hs => h s (hp.mem_iff.1 hs)
theorem inS_perm {l l' : List Spn} (hp : l'.Perm l) (k : Int) : inS l' k ↔ inS l k := by
  constructor
  · rintro ⟨s, hs, h⟩; exact ⟨s, hp.mem_iff.1 hs, h⟩
  · rintro ⟨s, hs, h⟩; exact ⟨s, hp.mem_iff.2 hs, h⟩
theorem merged_ok {P : Program} {f so g tS : Nat} (hc : compFnX P [tS] f = some (58, authority_merged_BC so g tS, [.t 2])) (hso : SortOK P so g) : MergedOK P f := by
  intro l hok hlen H nx
  refine PCalls_ofX hc (by simp) fun hw => ?_
  have hmx : (maxLen : Int) = 9223372036854775807 := rfl
  have hfl := fl_len Spn.cells 2 Spn.len (l := l)
  have hrl : ((List.replicate l.length ([.int .i64 0, .int .i64 0] : List Value)).flatten).length = l.length * 2 := by rw [flat_rep_len]; rfl
  simp [authority_merged_BC]
  refine ⟨by unfold maxLen; omega, by omega, ?_⟩
  have hsrc : ∀ H : Nat → Option (List Value), srcV H (deep (l.map Spn.v)) 2 = some (l.length, l.flatMap Spn.cells) := fun H => El.src (E := spEl) H l
  generalize (List.replicate l.length ([.int .i64 0, .int .i64 0] : List Value)).flatten = z at hrl
  rw [hsrc]
  refine wCpy_of (upd_same _ _ _) (by omega) (.inr (by omega)) ?_
  rw [Nat.min_self]
  have hrow : z.take 0 ++ (l.flatMap Spn.cells).take (l.length * 2) ++ z.drop (0 + l.length * 2) = l.flatMap Spn.cells := by
    rw [List.take_zero, List.nil_append, List.take_of_length_le (by omega), List.drop_of_length_le (by omega), List.append_nil]
  rw [hrow]
  simp
  refine wCallB_of (wCall_leT (hso l nx _ _ (fun s hs => by have := hok s hs; omega) (by omega) (by simp)) (fun j hj => .inl (by omega)) (fun j row hj hr' => ?_) fun p H' nx' hR hn' => ?_)
  · subst hj
    simp at hr'
    subst hr'
    exact rowNoLin_dg (El.dgs (E := spEl) l)
  · obtain ⟨rfl, rfl, l', hp, hsrt, rfl⟩ := hR
    have hll : l'.length = l.length := hp.length_eq
    have hok' := okS_perm hok hp
    simp
    refine wpc_loop _ _ _ _ _ _ (fun s => s.t 16 = slc nx 0 l'.length l'.length ∧ s.t 17 = .int .i64 l'.length ∧ ∃ (i : Nat), i ≤ l'.length ∧ s.t 18 = .int .i64 i ∧ ∃ out : List Spn, Bx spEl (nx + 1) (upd H nx (some (l'.flatMap Spn.cells))) s.H s.nx (s.t 4) out ∧ Mrg (-1) (l'.take i) out ∧ out.length ≤ i)
      (fun s => match s.t 18 with | .int _ i => (l'.length - i).toNat | _ => 0) _ ⟨by simp [hll], by simp [hll], 0, by omega, by simp, [], ?_, Mrg.nil _, by simp⟩ ?_
    · refine Bx.nil (fun k hk => ?_) (by simp)
      simp
    rintro ⟨T, H', nx'⟩ ⟨e16, e17, i, hi, e18, out, hB, hM, hol⟩
    simp only at e16 e17 e18 hB
    simp [e17, e18]
    refine wB_of (fun hlt => ?_) (fun hlt => ?_)
    · simp at hlt
      refine mrg_j1 (Hs := upd H nx (some (l'.flatMap Spn.cells))) (n1 := nx + 1) (k := nx) (i := i) (l := l') (out := out) (v := T 4) (by omega) (by omega) hlt (by omega) hok' hsrt (by simp) (by simp [e16]) (by simp [e18]) (by simp) hB hM hol fun t' H2 n2 v' out' h1 h2 h3 h4 h5 h6 => ?_
      refine kLoop_nrm _ _ _ _ (Sub_refl _ _) ⟨(h1 16 (by simp)).trans (by simp [e16]), (h1 17 (by simp)).trans (by simp [e17]), i + 1, by omega, by simp [h3], out', by show Bx _ _ _ _ _ (t' 4) _; rw [h2]; exact h4, h5, h6⟩ (by simp [h3]; omega)
    · simp at hlt
      have hil : i = l'.length := by omega
      subst hil
      rw [List.take_length] at hM
      have hB2 : Bx spEl nx H H' nx' (T 4) out := hB.rebase (by omega) (fun k hk => by rw [hB.own k (by omega), upd_ne _ _ (by omega)])
      have hB3 : Bx spEl nx H H' nx' (dgT (T 4)) out := by
        obtain ⟨b1, b2, ⟨b3, b4⟩ | ⟨k2, cap, rest, b3, b4⟩⟩ := hB2
        · rw [b3]; exact ⟨b1, b2, .inl ⟨rfl, b4⟩⟩
        · rw [b3]; exact ⟨b1, b2, .inr ⟨k2, cap, rest, rfl, b4⟩⟩
      have hfin : ∃ l'_1, canon (-1) l'_1 ∧ (∀ k, inS l'_1 k ↔ inS l k) ∧ l'_1.length ≤ l.length ∧ Bx spEl nx H H' nx' (T 4) l'_1 := ⟨out, hM.c, fun k => (hM.s k).trans (inS_perm hp k), by omega, hB2⟩
      exact wF_of hfin
end Go.PE
namespace Go.PE
open Go
theorem canon_len : ∀ {l : List Spn} {b n : Int}, canon b l → b ≤ n → (∀ s ∈ l, s.t < n) → b + l.length ≤ n
  | [], b, n, _, hb, _ => by simpa using hb
  | s :: r, b, n, h, hb, hs => by
    have h1 := hs s (by simp)
    have := canon_len (l := r) (b := s.t + 1) (n := n) h.2.2 (by omega) fun x hx => hs x (by simp [hx])
    have := h.1; have := h.2.1
    simp only [List.length_cons]; omega
theorem canon_day {l : List Spn} (h : canon (-1) l) (hk : ∀ k, inS l k → k < 1440) : l.length ≤ 1441 ∧ okS l := by
  have ht : ∀ s ∈ l, s.t < 1440 := fun s hs => hk s.t ⟨s, hs, (canon_mem h hs).2, Int.le_refl _⟩
  have := canon_len h (n := 1440) (by omega) ht
  refine ⟨by omega, fun s hs => ?_⟩
  have := canon_mem h hs; have := ht s hs; omega
theorem OfI.dlen {l : List Pred} {a : Aut} (h : OfI l a) : a.daily.length ≤ 1441 ∧ okS a.daily := canon_day h.c fun k hk => ((h.k k).1 hk).2.1
def FullOK (P : Program) (f : Nat) : Prop := ∀ (H : Nat → Option (List Value)) (nx : Nat), PCalls P f [] H nx (fun _ => False) (fun r H' _ => r = fullA.v ∧ H' = H)
theorem full_ok {P : Program} {f tS : Nat} (hc : compFn P f = some (4, authority_FullC tS, [.cA 0 8])) : FullOK P f := by
  intro H nx
  refine PCalls_of hc (by simp) fun hw => ?_
  simp [authority_FullC]
  exact wF_own hw (by simp) ⟨rfl, rfl⟩
def NoneOK (P : Program) (f : Nat) : Prop := ∀ (H : Nat → Option (List Value)) (nx : Nat), PCalls P f [] H nx (fun _ => False) (fun r H' _ => r = noneA.v ∧ H' = H)
theorem none_ok {P : Program} {f tS : Nat} (hc : compFn P f = some (2, authority_noneC tS, [.cA 0 8])) : NoneOK P f := by
  intro H nx
  refine PCalls_of hc (by simp) fun hw => ?_
  simp [authority_noneC]
  exact wF_own hw (by simp) ⟨rfl, rfl⟩
def DailyOK (P : Program) (f : Nat) : Prop := ∀ (fr to : Int), 0 ≤ fr → fr < 1440 → 0 ≤ to → to < 1440 → ∀ (H : Nat → Option (List Value)) (nx : Nat),
    PCalls P f [.int .i64 fr, .int .i64 to] H nx (fun _ => False) (fun r H' _ => (∃ dl : List Spn, dg r = deep (dl.map Spn.v) ∧ canon (-1) dl ∧ (∀ k, inS dl k ↔ 0 ≤ k ∧ k < 1440 ∧ dayB fr to k)) ∧ H' = H)
theorem adaily_ok {P : Program} {f tS me : Nat} (hc : compFn P f = some (18, authority_dailyC tS me, [.t 4])) (hme : MergedOK P me) : DailyOK P f := by
  intro fr to h0 h1 h2 h3 H nx
  refine PCalls_of hc (by simp) fun hw => ?_
  have hmx : (maxLen : Int) = 9223372036854775807 := rfl
  by_cases h : fr ≤ to
  · simp [authority_dailyC, h, Spn.mk_v]
    refine wF_own hw (by simp) ⟨⟨[⟨fr, to⟩], rfl, ⟨by show (-1 : Int) < fr; omega, h, trivial⟩, fun k => ?_⟩, rfl⟩
    rw [inS_cons]
    unfold dayB
    rw [if_pos h]
    have := inS_nil k
    simp only
    constructor
    · rintro (h | h)
      · omega
      · exact absurd h this
    · intro h; left; omega
  · simp [authority_dailyC, authority_dailyC_j1, h, Spn.mk_v]
    have hok : okS [⟨0, to⟩, ⟨fr, 1439⟩] := fun s hs => by
      simp at hs
      rcases hs with rfl | rfl <;> simp <;> omega
    refine wCall_le (hme [⟨0, to⟩, ⟨fr, 1439⟩] hok (by simp) _ _) fun r H1 n1 hR hn1 hown => ?_
    obtain ⟨dl, d1, d2, d3, hB⟩ := hR
    simp
    have hset : ∀ k, inS dl k ↔ 0 ≤ k ∧ k < 1440 ∧ dayB fr to k := fun k => by
      rw [d2, inS_cons, inS_cons]
      unfold dayB
      rw [if_neg h]
      have := inS_nil k
      simp only
      constructor
      · rintro (h | h | h)
        · omega
        · omega
        · exact absurd h this
      · rintro ⟨a, b, c⟩
        rcases c with c | c
        · left; omega
        · right; left; omega
    refine Bx.fin1 hB hw fun v' hv' => ⟨⟨dl, ?_, d1, hset⟩, rfl⟩
    rcases hv' with ⟨_, rfl⟩ | rfl
    · exact absurd ((hset 0).2 ⟨by omega, by omega, by unfold dayB; rw [if_neg h]; left; omega⟩) (inS_nil _)
    · rfl
@[simp] theorem Pred.get0 (x : Pred) : x.cells[0]? = some (.int .i64 x.kind) := _root_.id rfl
@[simp] theorem Pred.get1 (x : Pred) : x.cells[1]? = some (.int .u64 x.mask) := _root_.id rfl
@[simp] theorem Pred.get2 (x : Pred) : x.cells[2]? = some (.int .i64 x.fr) := _root_.id rfl
@[simp] theorem Pred.get3 (x : Pred) : x.cells[3]? = some (.int .i64 x.to) := _root_.id rfl
@[simp] theorem Pred.get4 (x : Pred) : x.cells[4]? = some (.string x.name) := _root_.id rfl
@[simp] theorem Pred.cellsOfv9 (x : Pred) : PE.cellsOf x.v = some x.cells := _root_.id rfl
@[simp] theorem Pred.lenc (x : Pred) : x.cells.length = 6 := _root_.id rfl
@[simp] theorem Pred.getE0 (x : Pred) (h : 0 < x.cells.length) : x.cells[0] = .int .i64 x.kind := _root_.id rfl
@[simp] theorem Pred.getE1 (x : Pred) (h : 1 < x.cells.length) : x.cells[1] = .int .u64 x.mask := _root_.id rfl
@[simp] theorem Pred.getE2 (x : Pred) (h : 2 < x.cells.length) : x.cells[2] = .int .i64 x.fr := _root_.id rfl
@[simp] theorem Pred.getE3 (x : Pred) (h : 3 < x.cells.length) : x.cells[3] = .int .i64 x.to := _root_.id rfl
@[simp] theorem Pred.getE4 (x : Pred) (h : 4 < x.cells.length) : x.cells[4] = .string x.name := _root_.id rfl
@[simp] theorem Pred.getE5 (x : Pred) (h : 5 < x.cells.length) : x.cells[5] = .int .i64 x.num := _root_.id rfl
@[simp] theorem Pred.dgv9 (x : Pred) : dg x.v = x.v := _root_.id rfl
@[simp] theorem Pred.dg1v9 (x : Pred) : dg1 x.v = x.v := _root_.id rfl
@[simp] theorem Pred.dgTv9 (x : Pred) : dgT x.v = x.v := _root_.id rfl
@[simp] theorem Pred.lcv9 (x : Pred) : lc x.v = x.cells := _root_.id rfl
@[simp] theorem Pred.asAgv9 (x : Pred) : asAg x.v = some x.cells := _root_.id rfl
@[simp] theorem Pred.drop6 (x : Pred) : x.cells.drop 6 = [] := _root_.id rfl
theorem Aut.set6 (a : Aut) (l : List Spn) : a.cells.set 6 (deep (l.map Spn.v)) = { a with daily := l : Aut }.cells := rfl
theorem Aut.set6l (a : Aut) (e : Nat) (l : List Spn) : (a.cells.set 6 (lin e (l.map Spn.v))).map dg1 = { a with daily := l : Aut }.cells := rfl
@[simp] theorem Aut.take8' (x : Aut) (i : Nat) (v : Value) : (x.cells.set i v).take 8 = x.cells.set i v := List.take_of_length_le (by simp)
def RestrOK (P : Program) (f : Nat) : Prop := ∀ (l : List Pred) (a : Aut) (p : Pred), OfI l a → p.valid = true → p.wf → named l → ∀ (H : Nat → Option (List Value)) (nx : Nat),
    PCalls P f [a.v, p.v] H nx (fun _ => False) (fun r H' _ => (∃ a', r = a'.v ∧ OfI (l ++ [p]) a') ∧ H' = H)
theorem noName_iff (b : ByteArray) : b.toList = [] ↔ b = noName := by
  have e : ∀ b : ByteArray, b.toList = b.data.toList := fun b => by simp [ByteArray.toList_eq]
  rw [e]
  constructor
  · intro h; exact ByteArray.ext (by simpa [noName] using h)
  · intro h; rw [h]; rfl
theorem valid_kinds {p : Pred} (h : p.valid = true) : (p.kind = 4 → 0 ≤ p.fr ∧ p.fr ≤ p.to ∧ p.to ≤ 67108864) ∧ (p.kind = 5 → 0 ≤ p.fr ∧ p.fr < 1440 ∧ 0 ≤ p.to ∧ p.to < 1440) ∧ (p.kind = 6 → p.name ≠ noName) ∧ 1 ≤ p.kind ∧ p.kind ≤ 7 := by
  have hk := Pred.valid_kind h
  refine ⟨fun e => ?_, fun e => ?_, fun e en => ?_, hk.1, hk.2⟩
  · simp [Pred.valid, e] at h; omega
  · simp [Pred.valid, e] at h; omega
  · simp only [Pred.valid, e] at h
    rw [en] at h
    simp [nameV, noName] at h
set_option maxHeartbeats 2000000 in
theorem restr_ok {P : Program} {f tS da co : Nat} (hc : compFn P f = some (73, authority_restrictC tS da co, [.cA 4 8])) (hda : DailyOK P da) (hco : CommonOK P co tS) : RestrOK P f := by
  intro l a p ha hv hwf hnm H nx
  refine PCalls_of hc (by simp) fun hw => ?_
  have hmx : (maxLen : Int) = 9223372036854775807 := rfl
  have a1 : ¬ nx = nx + 1 + 1 := by omega
  have a2 : ¬ nx + 1 = nx + 1 + 1 := by omega
  have a3 : ¬ nx = nx + 1 := by omega
  have a4 : nx ≤ nx + 1 + 1 := by omega
  have a5 : nx ≤ nx + 1 := by omega
  have a6 : ¬ nx + 1 = nx := by omega
  have a7 : ¬ nx + 1 + 1 = nx := by omega
  obtain ⟨v4, v5, v6, v0, v7⟩ := valid_kinds hv
  have hmu : isU64 p.mask := ⟨hwf.2.1, hwf.2.2⟩
  by_cases h1 : p.kind = 1
  · simp [authority_restrictC, a1, a2, a3, a4, a5, a6, a7, h1, Aut.ag]
    exact wF_own hw (by simp [a4, a5]) ⟨⟨_, rfl, ha.zone h1 hmu⟩, rfl⟩
  by_cases h2 : p.kind = 2
  · simp [authority_restrictC, a1, a2, a3, a4, a5, a6, a7, h2, Aut.ag]
    exact wF_own hw (by simp [a4, a5]) ⟨⟨_, rfl, ha.line h2 hmu⟩, rfl⟩
  by_cases h3 : p.kind = 3
  · simp [authority_restrictC, a1, a2, a3, a4, a5, a6, a7, h3, Aut.ag]
    exact wF_own hw (by simp [a4, a5]) ⟨⟨_, rfl, ha.dayw h3 hmu⟩, rfl⟩
  have b1 : (p.kind == 1) = false := by simp [h1]
  have b2 : (p.kind == 2) = false := by simp [h2]
  have b3 : (p.kind == 3) = false := by simp [h3]
  have hm1 : ∀ u v : Int, (if u < v then v else u) = max u v := fun u v => by split <;> omega
  have hm2 : ∀ u v : Int, (if v < u then v else u) = min u v := fun u v => by split <;> omega
  by_cases h4 : p.kind = 4
  · obtain ⟨q1, q2, q3⟩ := v4 h4
    simp [authority_restrictC, a1, a2, a3, a4, a5, a6, a7, h4, Aut.ag, hm1, hm2]
    exact wF_own hw (by simp [a4, a5]) ⟨⟨_, rfl, ha.time h4 q1 q2 q3⟩, rfl⟩
  have b4 : (p.kind == 4) = false := by simp [h4]
  by_cases h5 : p.kind = 5
  · obtain ⟨q1, q2, q3, q4⟩ := v5 h5
    obtain ⟨hdl, hds⟩ := ha.dlen
    have fin5 : ∀ (dl : List Spn), canon (-1) dl → (∀ k, inS dl k ↔ 0 ≤ k ∧ k < 1440 ∧ dayB p.fr p.to k) → OfI (l ++ [p]) { a with daily := commonL a.daily dl : Aut } := fun dl d1 d2 => ha.dayly h5 d1 d2
    simp [authority_restrictC, a1, a2, a3, a4, a5, a6, a7, h5]
    repeat' first
      | refine And.intro ?_ ?_
      | (refine wCall_eq (Q := fun r => ∃ dl : List Spn, dg r = deep (dl.map Spn.v) ∧ canon (-1) dl ∧ (∀ k, inS dl k ↔ 0 ≤ k ∧ k < 1440 ∧ dayB p.fr p.to k)) (hda p.fr p.to q1 q2 q3 q4 _ _) fun r n1 hr hn1 => ?_
         obtain ⟨dl, d0, d1, d2⟩ := hr
         have hdl2 := (canon_day d1 fun k hk => ((d2 k).1 hk).2.1).1
         simp at hn1
         simp [a1, a2, a3, a4, a5, a6, a7, d0])
      | (refine wCall_eq (Q := fun r => r = lin tS ((commonL a.daily dl).map Spn.v)) (hco a.daily dl (by omega) (by omega) _ _) fun r n2 hr hn2 => ?_
         subst hr
         simp at hn2
         simp [a1, a2, a3, a4, a5, a6, a7])
    all_goals
      refine sts_of (k := nx) (off := 6) (e := tS) (xs := (commonL a.daily dl).map Spn.v) (row := a.cells) (by simp) (by simp [a1, a2, a3]) (by simp) (.inr (by omega)) (by simp) ?_
      simp [a1, a2, a3, a4, a5, a6, a7, Aut.set6, Aut.set6l, Aut.ag]
      exact wF_own hw (by simp [a4, a5]) ⟨⟨_, rfl, fin5 dl d1 d2⟩, rfl⟩
  have b5 : (p.kind == 5) = false := by simp [h5]
  by_cases h6 : p.kind = 6
  · have hz : ∀ z, z = (if a.holder ≠ noName ∧ a.holder ≠ p.name then 0 else a.zones) → OfI (l ++ [p]) { a with zones := z, holder := p.name : Aut } := fun z hz => ha.holder h6 hnm hz
    by_cases g1 : a.holder = noName
    · have g1'' : a.holder.toList = [] := (noName_iff _).2 g1
      have g1' : a.holder.toList.isEmpty = true := by rw [g1'']; rfl
      simp [authority_restrictC, a1, a2, a3, a4, a5, a6, a7, h6, g1', g1'', Aut.ag]
      exact wF_own hw (by simp [a4, a5]) ⟨⟨_, rfl, hz a.zones (by rw [if_neg (by simp [g1])])⟩, rfl⟩
    · have g1'' : ¬ a.holder.toList = [] := fun e => g1 ((noName_iff _).1 e)
      have g1' : a.holder.toList.isEmpty = false := by simpa using g1''
      by_cases g2 : a.holder = p.name
      · simp [authority_restrictC, a1, a2, a3, a4, a5, a6, a7, h6, g1', g1'', show (a.holder == p.name) = true by simp [g2], Aut.ag]
        exact wF_own hw (by simp [a4, a5]) ⟨⟨_, rfl, hz a.zones (by rw [if_neg (by simp [g2])])⟩, rfl⟩
      · have g2' : (a.holder == p.name) = false := by simpa using g2
        simp [authority_restrictC, a1, a2, a3, a4, a5, a6, a7, h6, g1', g1'', g2', Aut.ag]
        exact wF_own hw (by simp [a4, a5]) ⟨⟨_, rfl, hz 0 (by rw [if_pos ⟨g1, g2⟩])⟩, rfl⟩
  · have h7 : p.kind = 7 := by omega
    simp [authority_restrictC, a1, a2, a3, a4, a5, a6, a7, h7, Aut.ag]
    exact wF_own hw (by simp [a4, a5]) ⟨⟨_, rfl, ha.rides h7⟩, rfl⟩
end Go.PE
namespace Go.PE
open Go
/-- what may be closed -/
structure WfI (a : Aut) : Prop where
  zu : isU64 a.zones
  lu : isU64 a.lines
  du : isU64 a.days
  fb : 0 ≤ a.fr ∧ a.fr ≤ 67108864 ∧ 0 ≤ a.to ∧ a.to ≤ 67108864
  c : canon (-1) a.daily
  k : ∀ k, inS a.daily k → k < 1440
theorem OfI.wf {l : List Pred} {a : Aut} (h : OfI l a) : WfI a := ⟨h.zu, h.lu, h.du, h.fb, h.c, fun k hk => ((h.k k).1 hk).2.1⟩
/-- the minutes on the days that have been looked at -/
def SV (n : Int) (a : Aut) (d m : Int) : Prop := a.S m ∧ near n (a.fr / 1440) (a.to / 1440) (m / 1440) ∧ m / 1440 < d
theorem SV_0 (n : Int) (a : Aut) (m : Int) : ¬ SV n a (a.fr / 1440) m := fun h => by
  have := h.2.1.1; have := h.2.2; omega
theorem CloO.congr {S S' : Int → Prop} {fr to days f0 : Int} {l : List Spn} (h : CloO S fr to days l f0) (e : ∀ m, S m ↔ S' m) : CloO S' fr to days l f0 := by
  have : S = S' := funext fun m => propext (e m)
  subst this; exact h
theorem SV_skip {n : Int} {a : Aut} {d : Int} (h1 : a.fr / 1440 + n < d) (h2 : d < a.to / 1440 - n) (m : Int) : SV n a d m ↔ SV n a (a.to / 1440 - n) m := by
  unfold SV near
  constructor
  · rintro ⟨a1, a2, a3⟩; exact ⟨a1, a2, by omega⟩
  · rintro ⟨a1, a2, a3⟩; exact ⟨a1, a2, by omega⟩
theorem clo_same {n : Int} {a : Aut} {d fr to days f0 : Int} {l : List Spn} (hw : WfI a) (h : CloO (SV n a d) fr to days l f0) (hld : dayL a d = []) : CloO (SV n a (d + 1)) fr to days l f0 := by
  refine h.congr fun m => ?_
  unfold SV
  constructor
  · rintro ⟨a1, a2, a3⟩; exact ⟨a1, a2, by omega⟩
  · rintro ⟨a1, a2, a3⟩
    refine ⟨a1, a2, ?_⟩
    apply Classical.byContradiction
    intro hn
    have hd : m / 1440 = d := by omega
    have := (dayL_inS (a := a) (d := d) (k := m % 1440) (fun j hj => ⟨by have := canon_lt hw.c hj; omega, hw.k j hj⟩)).2 ⟨by rw [show d * 1440 + m % 1440 = m by omega]; exact a1, by omega, by omega⟩
    rw [hld] at this
    exact inS_nil _ this
theorem clo_step {n : Int} {a : Aut} {d fr to days lo hi : Int} {l l' : List Spn} (hw : WfI a) (h : CloO (SV n a d) fr to days l 67108865) (h0 : 0 ≤ d) (hnear : near n (a.fr / 1440) (a.to / 1440) d)
    (hlo : inS (dayL a d) lo) (hmin : ∀ k, inS (dayL a d) k → lo ≤ k) (hhi : inS (dayL a d) hi) (hmax : ∀ k, inS (dayL a d) k → k ≤ hi) (hc : canon (-1) l') (hl' : ∀ k, inS l' k ↔ inS l k ∨ inS (dayL a d) k) :
    CloO (SV n a (d + 1)) (min fr (d * 1440 + lo)) (max to (d * 1440 + hi)) (bitsV .or .u64 days (2 ^ (d % 7).toNat)) l' 67108865 := by
  have hin := fun k => dayL_inS (a := a) (d := d) (k := k) (fun j hj => ⟨by have := canon_lt hw.c hj; omega, hw.k j hj⟩)
  have hS0 : ∀ m, a.S m → 0 ≤ m ∧ m ≤ 67108864 := fun m hm => by have := hm.1; have := hm.2.1; have := hw.fb; omega
  right
  refine (h.day (X := fun m => a.S m ∧ m / 1440 = d) (ld := dayL a d) (lo := lo) (hi := hi) h0 (fun m hm => hm.2.2) (fun m hm => hm.2) (fun k => ?_) hlo hmin hhi hmax ?_ hc hl' (fun m hm => (hS0 m hm.1).1)).congr fun m => ?_
  · rw [hin]
    constructor
    · rintro ⟨a1, a2, a3⟩; exact ⟨⟨a1, by omega⟩, a2, a3⟩
    · rintro ⟨⟨a1, _⟩, a2, a3⟩; exact ⟨a1, a2, a3⟩
  · have := hS0 _ ((hin lo).1 hlo).1; omega
  · unfold SV
    constructor
    · rintro (⟨a1, a2, a3⟩ | ⟨a1, a2⟩)
      · exact ⟨a1, a2, by omega⟩
      · exact ⟨a1, by rw [a2]; exact hnear, by omega⟩
    · rintro ⟨a1, a2, a3⟩
      by_cases hd : m / 1440 = d
      · exact .inr ⟨a1, hd⟩
      · exact .inl ⟨a1, a2, by omega⟩
theorem clo_end {n : Int} {a : Aut} {d fr to days f0 : Int} {l : List Spn} (hn : 8 ≤ n) (h : CloO (SV n a d) fr to days l f0) (hd : a.to / 1440 < d) : (to = -1 ∧ ∀ m, ¬ a.S m) ∨ Clo a.S fr to days l := by
  have e : ∀ m, SV n a d m ↔ Tm a.fr a.to (tb a.days) (inS a.daily) m ∧ near n (a.fr / 1440) (a.to / 1440) (m / 1440) := fun m => by
    unfold SV
    constructor
    · rintro ⟨a1, a2, _⟩; exact ⟨a1, a2⟩
    · rintro ⟨a1, a2⟩; exact ⟨a1, a2, by have := a2.2.1; omega⟩
  rcases h with ⟨_, h1, _, _, h2⟩ | h
  · exact .inl ⟨h1, near_none hn fun m hm => h2 m ((e m).2 hm)⟩
  · exact .inr (near_all hn (h.congr e))
end Go.PE
namespace Go.PE
open Go
/-- a call that takes a list of one's own away, and hands back whatever it says -/
theorem Bx.giveR {α : Type} {E : El α} {P : Program} {n0 n1 f : Nat} {H0 : Nat → Option (List Value)} {T : Nat → Prop} {d : Option Nat} {s : PS} {K : PS → Prop} {v : Value} {m : List α} {as_ : List Value} {R : (Nat → Option (List Value)) → Post} (h0 : n0 ≤ n1)
    (h : Bx E n1 H0 s.H s.nx v m) (hpos : 0 < m.length) (hc : ∀ H1, PCalls P f (deep (m.map E.g) :: as_) H1 s.nx (fun _ => False) (R H1))
    (hK : ∀ k H1 p H' n', n1 ≤ k → H1 = upd s.H k none → R H1 p H' n' → s.nx ≤ n' → (∀ j, j < s.nx → H' j = H1 j) → K ⟨(s.putO d p).t, H', n'⟩) : wCallB (PCalls P) T n0 f (dg v :: as_) d s K := by
  obtain ⟨k, cap, rest, rfl, a2, a3, a4, a5, a6, a7⟩ := h.at hpos
  refine ⟨upd s.H k none, deep (m.map E.g) :: as_, fun j => ?_, ⟨rfl, fun i a b ha hb => ?_⟩, .inl ⟨fun _ => False, fun _ h => h.elim, fun _ _ h => h.elim, (hc _).more.mono ?_⟩⟩
  · by_cases e : j = k
    · subst e; exact .inr ⟨by omega, upd_same _ _ _⟩
    · exact .inl (upd_ne _ _ e)
  · cases i with
    | zero =>
      simp at ha hb; subst ha; subst hb
      exact .inl (Cv1_list E.f E.g E.hg E.size E.hf E.hd a4 (upd_same _ _ _) (by omega) a7)
    | succ i =>
      simp at ha hb; rw [ha] at hb
      exact .inl (.inl (Option.some.inj hb).symm)
  · rintro p H' nx' ⟨hp, hn, ho⟩
    have := hK k _ p H' nx' a2 rfl hp hn (fun j hj => ho j hj (fun h => h.elim))
    cases d <;> exact this
/-- the row of a summary that is being put together -/
def outRow (a : Aut) (d fr to : Int) (v : Value) : List Value := [.bool false, .int .u64 a.zones, .int .u64 a.lines, .int .u64 d, .int .i64 fr, .int .i64 to, v, .string a.holder]
@[simp] theorem outRow_len (a : Aut) (d fr to : Int) (v : Value) : (outRow a d fr to v).length = 8 := _root_.id rfl
@[simp] theorem outRow_1 (a : Aut) (d fr to : Int) (v : Value) : (outRow a d fr to v)[1]? = some (.int .u64 a.zones) := _root_.id rfl
@[simp] theorem outRow_2 (a : Aut) (d fr to : Int) (v : Value) : (outRow a d fr to v)[2]? = some (.int .u64 a.lines) := _root_.id rfl
@[simp] theorem outRow_3 (a : Aut) (d fr to : Int) (v : Value) : (outRow a d fr to v)[3]? = some (.int .u64 d) := _root_.id rfl
@[simp] theorem outRow_4 (a : Aut) (d fr to : Int) (v : Value) : (outRow a d fr to v)[4]? = some (.int .i64 fr) := _root_.id rfl
@[simp] theorem outRow_5 (a : Aut) (d fr to : Int) (v : Value) : (outRow a d fr to v)[5]? = some (.int .i64 to) := _root_.id rfl
@[simp] theorem outRow_6 (a : Aut) (d fr to : Int) (v : Value) : (outRow a d fr to v)[6]? = some v := _root_.id rfl
theorem outRow_s3 (a : Aut) (d fr to d' : Int) (v : Value) : (outRow a d fr to v).take 3 ++ [.int .u64 d'] ++ (outRow a d fr to v).drop 4 = outRow a d' fr to v := rfl
theorem outRow_s4 (a : Aut) (d fr to d' : Int) (v : Value) : (outRow a d fr to v).take 4 ++ [.int .i64 d'] ++ (outRow a d fr to v).drop 5 = outRow a d d' to v := rfl
theorem outRow_s5 (a : Aut) (d fr to d' : Int) (v : Value) : (outRow a d fr to v).take 5 ++ [.int .i64 d'] ++ (outRow a d fr to v).drop 6 = outRow a d fr d' v := rfl
theorem outRow_s6 (a : Aut) (d fr to : Int) (v v' : Value) : (outRow a d fr to v).set 6 v' = outRow a d fr to v' := rfl
section
variable {P : Program} {me n0 tS : Nat} (hme : MergedOK P me)
include hme
/-- a day is taken in -/
theorem cl_j1 {T : Nat → Value} {H : Nat → Option (List Value)} {nx n1 ko : Nat} {a : Aut} {day d fr to : Int} {v : Value} {l ld : List Spn} {x y : Spn} {Q : Ex → PS → Prop} (h0 : n0 ≤ ko) (hk : ko < n1) (hd0 : 0 ≤ day) (hd1 : day ≤ 100000) (hdu : isU64 d)
    (hfr : -1000000000000 ≤ fr ∧ fr ≤ 1000000000000) (hto : -1000000000000 ≤ to ∧ to ≤ 1000000000000) (hl : okS (l ++ ld)) (hll : (l ++ ld).length ≤ 10000)
    (hx : ld.head? = some x) (hy : ld.getLast? = some y) (hx1 : 0 ≤ x.f ∧ x.f < 1440) (hy1 : 0 ≤ y.t ∧ y.t < 1440)
    (e5 : T 5 = ptr ko 0) (e6 : T 6 = .int .i64 day) (e7 : T 7 = lin tS (ld.map Spn.v)) (hHk : H ko = some (outRow a d fr to v)) (hB : Bx spEl n1 H H nx v l)
    (hK : ∀ t' H' n' v' l', (∀ u, u < 7 → t' u = T u) → canon (-1) l' → (∀ k, inS l' k ↔ inS l k ∨ inS ld k) →
      H' ko = some (outRow a (bitsV .or .u64 d (2 ^ (day % 7).toNat)) (min fr (day * 1440 + x.f)) (max to (day * 1440 + y.t)) v') → (∀ j, j < n1 → j ≠ ko → H' j = H j) → n1 ≤ n' → Bx spEl n1 H' H' n' v' l' → Q .nrm ⟨t', H', n'⟩) :
    wpc (PCalls P) P (fun _ => False) n0 (authority_closed_BC_j1 me) Q ⟨T, H, nx⟩ := by
  have hmx : (maxLen : Int) = 9223372036854775807 := rfl
  have hn1 := hB.le
  have q3 : day.tmod 7 = day % 7 := Int.tmod_eq_emod_of_nonneg hd0
  have q4 : min (day % 7).toNat 64 = (day % 7).toNat := by omega
  have q6 : IntKind.u64.bits = 64 := rfl
  have hwp : IntKind.u64.wrap (2 ^ (day % 7).toNat) = 2 ^ (day % 7).toNat := by
    have h7 : (day % 7).toNat < 7 := by omega
    generalize (day % 7).toNat = n at h7
    have : n = 0 ∨ n = 1 ∨ n = 2 ∨ n = 3 ∨ n = 4 ∨ n = 5 ∨ n = 6 := by omega
    rcases this with rfl | rfl | rfl | rfl | rfl | rfl | rfl <;> rfl
  have w1 := w64 (x := day * 1440) (by omega) (by omega)
  have w2 := w64 (x := day * 1440 + x.f) (by omega) (by omega)
  have w3 := w64 (x := day * 1440 + y.t) (by omega) (by omega)
  have hpos : 0 < ld.length := by
    cases ld with
    | nil => simp at hx
    | cons _ _ => simp
  have w4 := w64 (x := (ld.length : Int) - 1) (by omega) (by simp at hll; omega)
  have hx0 : elemAt (ld.map Spn.v) 0 2 = some (dptr 0 x.cells) := by
    have := elem_spn (l := ld) (n := 0) (by omega) (by simpa using hpos)
    have hx2 : ld[0] = x := by
      rw [List.head?_eq_getElem?, List.getElem?_eq_getElem hpos] at hx
      exact Option.some.inj hx
    simp [hx2] at this
    exact this
  have hy0 : elemAt (ld.map Spn.v) ((ld.length : Int) - 1) 2 = some (dptr 0 y.cells) := by
    have hlt : ((ld.length : Int) - 1).toNat < ld.length := by omega
    have := elem_spn (l := ld) (n := (ld.length : Int) - 1) (by omega) hlt
    have hy2 : ld[((ld.length : Int) - 1).toNat] = y := by
      rw [List.getLast?_eq_getElem?, show ld.length - 1 = ((ld.length : Int) - 1).toNat by omega, List.getElem?_eq_getElem hlt] at hy
      exact Option.some.inj hy
    rw [hy2] at this
    exact this
  have hm1 : ∀ u v : Int, (if u < v then v else u) = max u v := fun u v => by split <;> omega
  have hm2 : ∀ u v : Int, (if v < u then v else u) = min u v := fun u v => by split <;> omega
  unfold outRow at hHk
  simp [authority_closed_BC_j1, e5, e6, e7, hHk, q3, show 0 ≤ day % 7 by omega, q4, q6, hwp, w1, w2, w3, w4, hx0, hy0, hm1, hm2, h0]
  refine wLdT_ptr (row := outRow a (bitsV .or .u64 d (2 ^ (day % 7).toNat)) (min fr (day * 1440 + x.f)) (max to (day * 1440 + y.t)) v) (c := v) (by simp [outRow]) rfl (.inr h0) ?_
  simp [e5, e7, outRow_s6]
  generalize bitsV .or .u64 d (2 ^ (day % 7).toNat) = d2 at *
  generalize min fr (day * 1440 + x.f) = fr2 at *
  generalize max to (day * 1440 + y.t) = to2 at *
  have hB2 : Bx spEl n1 (upd H ko (some (outRow a d2 fr2 to2 (dg1 v)))) (upd H ko (some (outRow a d2 fr2 to2 (dg1 v)))) nx v l := by
    obtain ⟨b1, b2, b3⟩ := hB
    refine ⟨fun _ _ => rfl, b2, b3.imp id ?_⟩
    rintro ⟨k2, cap, rest, a1, a2, a3, a4⟩
    exact ⟨k2, cap, rest, a1, a2, a3, by rw [upd_ne _ _ (by omega)]; exact a4⟩
  refine wAppB_base (n1 := n1) (by omega) (Bx.app (E := spEl) (bytes := 16) (zero := [.int .i64 0, .int .i64 0]) (l := ld) (m := l) hB2 rfl rfl (by simp at hll; simp [maxLen]; omega) (by simp at hll; omega) fun v2 H3 nx3 hB3 => ?_)
  simp
  refine Bx.giveR (n1 := n1) (by omega) hB3 (by simp; omega) (fun H1 => hme (l ++ ld) hl (by omega) H1 nx3) fun k H1 p H' n' hk1 hH1 hR hn' hoth => ?_
  obtain ⟨l', c1, c2, c3, hB4⟩ := hR
  have hn3 := hB3.le
  have hko : H' ko = some (outRow a d2 fr2 to2 (dg1 v)) := by
    rw [hoth ko (by show ko < nx3; omega), hH1, upd_ne _ _ (by omega)]
    show H3 ko = _
    rw [hB3.own ko (by omega), upd_same]
  have hp1 : ∀ ps, p ≠ .tuple ps := by
    rcases hB4.2.2 with ⟨rfl, _⟩ | ⟨k, cap, rest, rfl, _⟩ <;> intro ps h <;> simp [ns, slc] at h
  have hp2 : ∀ ps, p ≠ .agg ps := by
    rcases hB4.2.2 with ⟨rfl, _⟩ | ⟨k, cap, rest, rfl, _⟩ <;> intro ps h <;> simp [ns, slc] at h
  simp [e5]
  refine ⟨ko, 6, outRow a d2 fr2 to2 (dg1 v), by simp, hko, by simp, .inr h0, by simpa using hp1, by simpa using hp2, ?_⟩
  simp [outRow_s6]
  refine hK _ _ _ p l' (fun u hu => ?_) c1 (fun k => by rw [c2, inS_append]) (upd_same _ _ _) (fun j hj hjk => ?_) (by have : nx3 ≤ n' := hn'; omega) ?_
  · have h7 : u = 0 ∨ u = 1 ∨ u = 2 ∨ u = 3 ∨ u = 4 ∨ u = 5 ∨ u = 6 := by omega
    rcases h7 with rfl | rfl | rfl | rfl | rfl | rfl | rfl <;> rfl
  · rw [upd_ne _ _ hjk, hoth j (by show j < nx3; omega), hH1, upd_ne _ _ (by omega)]
    show H3 j = _
    rw [hB3.own j hj, upd_ne _ _ hjk]
  · obtain ⟨b1, b2, b3⟩ := hB4
    refine ⟨fun _ _ => rfl, by omega, b3.imp id ?_⟩
    rintro ⟨k2, cap, rest, a1, a2, a3, a4, a5⟩
    exact ⟨k2, cap, rest, a1, by omega, a3, by rw [upd_ne _ _ (by omega)]; exact a4, a5⟩
end
end Go.PE
