/- contexts: valid ones; rides what holds for a ride: the methods the references' Holds; All The deck: predicates. The deck: lists of predicates; layer 7's sanity check. Predicates and contexts among the arguments. Pure code, printed by a program: the ledger. Tags and counts as plain data. Caveats and bundles as plain data. The ledger: where a node is counted. Same counts, same tags. Tags and counts among the arguments. Pure code, printed by a program: concession authorities. Persons and concession authorities as plain data; maps of names. Concession authorities: names, births; is an authority valid? Concession authorities: the reference's Valid, Find, Register, New; what the deck gives. -/
import Derived.Test.YtgipgpopmpcddaaPartD
import Derived.Test.YtgipgpopmpcddaaPartC
set_option linter.all false
namespace Go.PE
open Go
def Ctx.valid (c : Ctx) : Bool := decide (0 ≤ c.zone) && decide (c.zone ≤ 63) && decide (0 ≤ c.line) && decide (c.line ≤ 31) && decide (0 ≤ c.minute) && decide (c.minute ≤ 67108864) && nameV c.holder
def CValidOK (P : Program) (f g : Nat) : Prop := ∀ (c : Ctx) (_ : (c.holder.size : Int) ≤ 9223372036854775807) (H : Nat → Option (List Value)) (nx : Nat), H g = some bitsRow → g < nx →
    PCalls P f [c.v] H nx (fun _ => False) (fun r H' _ => r = .bool c.valid ∧ H' = H)
theorem cvalid_ok {P : Program} {f g m : Nat} (hc : compFn P f = some (37, holds_ValidC m, [.t 2])) (hm : PValidOK P m g) : CValidOK P f g := by
  intro c hs H nx hg hgn
  have hg1 : ¬ g = nx := by omega
  refine PCalls_of hc (by simp) fun hw => ?_
  obtain ⟨zone, line, minute, holder⟩ := c
  by_cases c1 : 0 ≤ zone
  rotate_left
  · simp [holds_ValidC, Ctx.v, Ctx.cells, c1]
    exact wF_own hw (by simp) (by simp [Ctx.valid, c1])
  by_cases c2 : zone ≤ 63
  rotate_left
  · simp [holds_ValidC, Ctx.v, Ctx.cells, c1, c2]
    exact wF_own hw (by simp) (by simp [Ctx.valid, c1, c2])
  by_cases c3 : 0 ≤ line
  rotate_left
  · simp [holds_ValidC, Ctx.v, Ctx.cells, c1, c2, c3]
    exact wF_own hw (by simp) (by simp [Ctx.valid, c1, c2, c3])
  by_cases c4 : line ≤ 31
  rotate_left
  · simp [holds_ValidC, Ctx.v, Ctx.cells, c1, c2, c3, c4]
    exact wF_own hw (by simp) (by simp [Ctx.valid, c1, c2, c3, c4])
  by_cases c5 : 0 ≤ minute
  rotate_left
  · simp [holds_ValidC, Ctx.v, Ctx.cells, c1, c2, c3, c4, c5]
    exact wF_own hw (by simp) (by simp [Ctx.valid, c1, c2, c3, c4, c5])
  by_cases c6 : minute ≤ 67108864
  rotate_left
  · simp [holds_ValidC, Ctx.v, Ctx.cells, c1, c2, c3, c4, c5, c6]
    exact wF_own hw (by simp) (by simp [Ctx.valid, c1, c2, c3, c4, c5, c6])
  simp [holds_ValidC, Ctx.v, Ctx.cells, c1, c2, c3, c4, c5, c6]
  have hpv := fun (H : Nat → Option (List Value)) (nx : Nat) => hm ⟨6, 0, 0, 0, holder, 0⟩ hs H nx
  have hv : (⟨6, 0, 0, 0, holder, 0⟩ : Pred).valid = nameV holder := by simp [Pred.valid]
  refine wCall_of (hpv _ _ (by simp [hg, hg1]) (by simp; omega)) fun r H' nx' ⟨hr, hH⟩ => ?_
  subst hr; subst hH
  rw [hv]
  cases hb : nameV holder
  · simp [hb]
    exact wF_own hw (by simp) (by simp [Ctx.valid, c1, c2, c3, c4, c5, c6, hb])
  · simp [hb]
    exact wF_own hw (by simp) (by simp [Ctx.valid, c1, c2, c3, c4, c5, c6, hb])
def RCValidOK (P : Program) (f : Nat) : Prop := ∀ (c : Ctx) (_ : (c.holder.size : Int) ≤ 9223372036854775807) (H : Nat → Option (List Value)) (nx : Nat),
    PCalls P f [c.v] H nx (fun _ => False) (fun r H' _ => r = .bool c.valid ∧ H' = H)
theorem rcvalid_ok {P : Program} {f n : Nat} (hc : compFn P f = some (36, ref06_ContextOkC n, [.t 2])) (hn : NameOK P n) : RCValidOK P f := by
  intro c hs H nx
  refine PCalls_of hc (by simp) fun hw => ?_
  obtain ⟨zone, line, minute, holder⟩ := c
  by_cases c1 : 0 ≤ zone
  rotate_left
  · simp [ref06_ContextOkC, Ctx.v, Ctx.cells, c1]
    exact wF_own hw (by simp) (by simp [Ctx.valid, c1])
  by_cases c2 : zone ≤ 63
  rotate_left
  · simp [ref06_ContextOkC, Ctx.v, Ctx.cells, c1, c2]
    exact wF_own hw (by simp) (by simp [Ctx.valid, c1, c2])
  by_cases c3 : 0 ≤ line
  rotate_left
  · simp [ref06_ContextOkC, Ctx.v, Ctx.cells, c1, c2, c3]
    exact wF_own hw (by simp) (by simp [Ctx.valid, c1, c2, c3])
  by_cases c4 : line ≤ 31
  rotate_left
  · simp [ref06_ContextOkC, Ctx.v, Ctx.cells, c1, c2, c3, c4]
    exact wF_own hw (by simp) (by simp [Ctx.valid, c1, c2, c3, c4])
  by_cases c5 : 0 ≤ minute
  rotate_left
  · simp [ref06_ContextOkC, Ctx.v, Ctx.cells, c1, c2, c3, c4, c5]
    exact wF_own hw (by simp) (by simp [Ctx.valid, c1, c2, c3, c4, c5])
  by_cases c6 : minute ≤ 67108864
  rotate_left
  · simp [ref06_ContextOkC, Ctx.v, Ctx.cells, c1, c2, c3, c4, c5, c6]
    exact wF_own hw (by simp) (by simp [Ctx.valid, c1, c2, c3, c4, c5, c6])
  simp [ref06_ContextOkC, Ctx.v, Ctx.cells, c1, c2, c3, c4, c5, c6]
  refine wCall_of (hn holder hs _ _) fun r H' nx' ⟨hr, hH⟩ => ?_
  subst hr; subst hH
  cases hb : nameV holder
  · simp [hb]
    exact wF_own hw (by simp) (by simp [Ctx.valid, c1, c2, c3, c4, c5, c6, hb])
  · simp [hb]
    exact wF_own hw (by simp) (by simp [Ctx.valid, c1, c2, c3, c4, c5, c6, hb])
end Go.PE
namespace Go.PE
open Go
def Pred.wf (p : Pred) : Prop := (p.name.size : Int) ≤ 9223372036854775807 ∧ 0 ≤ p.mask ∧ p.mask < 18446744073709551616
def Ctx.wf (c : Ctx) : Prop := (c.holder.size : Int) ≤ 9223372036854775807
theorem Ctx.valid_iff (c : Ctx) : c.valid = true ↔ (0 ≤ c.zone ∧ c.zone ≤ 63 ∧ 0 ≤ c.line ∧ c.line ≤ 31 ∧ 0 ≤ c.minute ∧ c.minute ≤ 67108864 ∧ nameV c.holder = true) := by
  simp [Ctx.valid, and_assoc]
/-- bit n of a mask -/
def bit (m n : Int) : Bool := m / 2 ^ n.toNat % 2 == 1
theorem bit_fdiv {m n : Int} (hm : 0 ≤ m) (hn0 : 0 ≤ n) (hn : n ≤ 63) : m.fdiv (2 ^ min n.toNat 64) = m / 2 ^ n.toNat := by
  rw [show min n.toNat 64 = n.toNat by omega]
  rw [Int.fdiv_eq_ediv_of_nonneg _ (Int.le_of_lt (Int.pow_pos (by omega)))]
theorem bit_nonneg {m : Int} (hm : 0 ≤ m) (n : Nat) : 0 ≤ m / 2 ^ n := Int.ediv_nonneg hm (Int.le_of_lt (Int.pow_pos (by omega)))
theorem bit_le {m : Int} (hm : 0 ≤ m) (hm1 : m < 18446744073709551616) (n : Nat) : m / 2 ^ n < 18446744073709551616 := by
  have := Int.ediv_le_self (2 ^ n) hm
  omega
theorem bit_and {m n : Int} (hm : 0 ≤ m) (hm1 : m < 18446744073709551616) (hn0 : 0 ≤ n) (hn : n ≤ 63) : (bitsV .and .u64 (m.fdiv (2 ^ min n.toNat 64)) 1 == 1) = bit m n := by
  rw [bit_fdiv hm hn0 hn]
  have := and_mask (m := m / 2 ^ n.toNat) (n := 1) (bit_nonneg hm _) (bit_le hm hm1 _) (by omega)
  simp only [Int.pow_one, show (2 : Int) ^ 1 = 2 from rfl] at this
  rw [show (2 : Int) - 1 = 1 from rfl] at this
  rw [this]; rfl
theorem bit_rem {m n : Int} (hm : 0 ≤ m) (hn0 : 0 ≤ n) (hn : n ≤ 63) : ((m.fdiv (2 ^ min n.toNat 64)).tmod 2 == 1) = bit m n := by
  rw [bit_fdiv hm hn0 hn, Int.tmod_eq_emod_of_nonneg (bit_nonneg hm _)]; rfl
def dailyV (m fr to : Int) : Bool := if fr ≤ to then decide (fr ≤ m % 1440) && decide (m % 1440 ≤ to) else decide (fr ≤ m % 1440) || decide (m % 1440 ≤ to)
/-- does a predicate of kind k hold? -/
def rideV (k : Int) (p : Pred) (c : Ctx) : Bool :=
  if k = 1 then bit p.mask c.zone else if k = 2 then bit p.mask c.line else if k = 3 then bit p.mask (c.minute / 1440 % 7)
  else if k = 4 then decide (p.fr ≤ c.minute) && decide (c.minute ≤ p.to) else if k = 5 then dailyV c.minute p.fr p.to else if k = 6 then p.name == c.holder else true
def RideOK (P : Program) (f : Nat) (k : Int) : Prop := ∀ (p : Pred) (c : Ctx), p.wf → c.valid = true → ∀ (H : Nat → Option (List Value)) (nx : Nat),
    PCalls P f [c.v, p.v] H nx (fun _ => False) (fun r H' _ => r = .bool (rideV k p c) ∧ H' = H)
section
variable {P : Program} {f : Nat}
theorem zone_ok (hc : compFn P f = some (12, holds_ride_zoneC, [.t 4])) : RideOK P f 1 := by
  intro p c ⟨_, hm0, hm1⟩ hv H nx
  obtain ⟨h1, h2, h3, h4, h5, h6, h7⟩ := (Ctx.valid_iff c).1 hv
  refine PCalls_of hc (by simp) fun hw => ?_
  have hb := bit_and hm0 hm1 h1 h2
  simp [holds_ride_zoneC, Ctx.v, Ctx.cells, Pred.v, Pred.cells, h1, IntKind.bits]
  exact wF_own hw (by simp) (by simp [rideV, ← hb])
theorem line_ok (hc : compFn P f = some (12, holds_ride_lineC, [.t 4])) : RideOK P f 2 := by
  intro p c ⟨_, hm0, hm1⟩ hv H nx
  obtain ⟨h1, h2, h3, h4, h5, h6, h7⟩ := (Ctx.valid_iff c).1 hv
  refine PCalls_of hc (by simp) fun hw => ?_
  have hb := bit_and hm0 hm1 h3 (by omega)
  simp [holds_ride_lineC, Ctx.v, Ctx.cells, Pred.v, Pred.cells, h3, IntKind.bits]
  exact wF_own hw (by simp) (by simp [rideV, ← hb])
theorem days_eq {m : Int} (h : 0 ≤ m) (hm : m ≤ 67108864) : (IntKind.i64.wrap (m.tdiv 1440)).tmod 7 = m / 1440 % 7 ∧ IntKind.i64.wrap (m.tdiv 1440) = m / 1440 := by
  have e : m.tdiv 1440 = m / 1440 := Int.tdiv_eq_ediv_of_nonneg h
  rw [e, w64 (by omega) (by omega), Int.tmod_eq_emod_of_nonneg (by omega)]
  exact ⟨rfl, rfl⟩
theorem days_ok (hc : compFn P f = some (14, holds_ride_daysC, [.t 4])) : RideOK P f 3 := by
  intro p c ⟨_, hm0, hm1⟩ hv H nx
  obtain ⟨h1, h2, h3, h4, h5, h6, h7⟩ := (Ctx.valid_iff c).1 hv
  refine PCalls_of hc (by simp) fun hw => ?_
  have hd := (days_eq h5 h6).1
  have hd0 : 0 ≤ c.minute / 1440 % 7 := by omega
  have hb := bit_and hm0 hm1 hd0 (by omega)
  simp [holds_ride_daysC, Ctx.v, Ctx.cells, Pred.v, Pred.cells, hd, hd0, IntKind.bits]
  exact wF_own hw (by simp) (by simp [rideV, ← hb])
theorem time_ok (hc : compFn P f = some (17, holds_ride_timeC, [.t 4])) : RideOK P f 4 := by
  intro p c _ hv H nx
  refine PCalls_of hc (by simp) fun hw => ?_
  by_cases h : p.fr ≤ c.minute
  · simp [holds_ride_timeC, Ctx.v, Ctx.cells, Pred.v, Pred.cells, h]
    exact wF_own hw (by simp) (by simp [rideV, h])
  · simp [holds_ride_timeC, Ctx.v, Ctx.cells, Pred.v, Pred.cells, h]
    exact wF_own hw (by simp) (by simp [rideV, h])
theorem daily_ok (hc : compFn P f = some (34, holds_ride_dailyC, [.t 4])) : RideOK P f 5 := by
  intro p c _ hv H nx
  obtain ⟨h1, h2, h3, h4, h5, h6, h7⟩ := (Ctx.valid_iff c).1 hv
  have hm : c.minute.tmod 1440 = c.minute % 1440 := Int.tmod_eq_emod_of_nonneg h5
  refine PCalls_of hc (by simp) fun hw => ?_
  by_cases h : p.fr ≤ p.to
  · by_cases h' : p.fr ≤ c.minute % 1440
    · simp [holds_ride_dailyC, Ctx.v, Ctx.cells, Pred.v, Pred.cells, hm, h, h']
      exact wF_own hw (by simp) (by simp [rideV, dailyV, h, h'])
    · simp [holds_ride_dailyC, Ctx.v, Ctx.cells, Pred.v, Pred.cells, hm, h, h']
      exact wF_own hw (by simp) (by simp [rideV, dailyV, h, h'])
  · by_cases h' : p.fr ≤ c.minute % 1440
    · simp [holds_ride_dailyC, Ctx.v, Ctx.cells, Pred.v, Pred.cells, hm, h, h']
      exact wF_own hw (by simp) (by simp [rideV, dailyV, h, h'])
    · simp [holds_ride_dailyC, Ctx.v, Ctx.cells, Pred.v, Pred.cells, hm, h, h']
      exact wF_own hw (by simp) (by simp [rideV, dailyV, h, h'])
theorem holder_ok (hc : compFn P f = some (10, holds_ride_holderC, [.t 4])) : RideOK P f 6 := by
  intro p c _ hv H nx
  refine PCalls_of hc (by simp) fun hw => ?_
  simp [holds_ride_holderC, Ctx.v, Ctx.cells, Pred.v, Pred.cells]
  exact wF_own hw (by simp) (by simp [rideV])
theorem rides_ok (hc : compFn P f = some (5, holds_ride_ridesC, [.t 4])) : RideOK P f 7 := by
  intro p c _ hv H nx
  refine PCalls_of hc (by simp) fun hw => ?_
  simp [holds_ride_ridesC, Ctx.v, Ctx.cells, Pred.v, Pred.cells]
  exact wF_own hw (by simp) (by simp [rideV])
end
def holdsV (p : Pred) (c : Ctx) : Bool := p.valid && c.valid && rideV p.kind p c
def HoldsOK (P : Program) (f g : Nat) : Prop := ∀ (p : Pred) (c : Ctx), p.wf → c.wf → ∀ (H : Nat → Option (List Value)) (nx : Nat), H g = some bitsRow → g < nx →
    PCalls P f [p.v, c.v] H nx (fun _ => False) (fun r H' _ => r = .bool (holdsV p c) ∧ H' = H)
theorem Pred.valid_kind {p : Pred} (h : p.valid = true) : 1 ≤ p.kind ∧ p.kind ≤ 7 := by
  unfold Pred.valid at h
  repeat (split at h; · omega)
  cases h
theorem holds_ok {P : Program} {f g v cv z l d t da h r : Nat} (hc : compFn P f = some (37, holds_HoldsC v cv z l d t da h r, [.t 4])) (hv : PValidOK P v g) (hcv : CValidOK P cv g)
    (hz : RideOK P z 1) (hl : RideOK P l 2) (hd : RideOK P d 3) (ht : RideOK P t 4) (hda : RideOK P da 5) (hh : RideOK P h 6) (hr : RideOK P r 7)
    (oz : okFn P z = true) (ol : okFn P l = true) (od : okFn P d = true) (ot : okFn P t = true) (oda : okFn P da = true) (oh : okFn P h = true) (or : okFn P r = true) : HoldsOK P f g := by
  intro p c hp hcw H nx hg hgn
  have hg1 : ¬ g = nx := by omega
  have hg2 : ¬ g = nx + 1 := by omega
  have hpv : ag p.cells = p.v := rfl
  have hcv' : ag c.cells = c.v := rfl
  have hpl : p.cells.length = 6 := rfl
  have hcl : c.cells.length = 4 := rfl
  refine PCalls_of hc (by simp) fun hw => ?_
  obtain ⟨kind, mask, fr, to, name, num⟩ := p
  obtain ⟨zone, line, minute, holder⟩ := c
  simp [holds_HoldsC, Pred.v, Ctx.v, Pred.cells, Ctx.cells]
  refine wCall_eq (Q := fun r => r = .bool _) (hv ⟨kind, mask, fr, to, name, num⟩ hp.1 _ _ (by simp [hg, hg1, hg2]) (by simp; omega)) fun r1 nx1 hr1 hn1 => ?_
  subst hr1
  simp at hn1
  cases hb : (⟨kind, mask, fr, to, name, num⟩ : Pred).valid
  · simp [hb]
    exact wF_own hw (by simp) (by simp [holdsV, hb])
  · simp [hb]
    refine wCall_eq (Q := fun r => r = .bool _) (hcv ⟨zone, line, minute, holder⟩ hcw _ _ (by simp [hg, hg1, hg2]) (by simp; omega)) fun r2 nx2 hr2 hn2 => ?_
    subst hr2
    simp at hn2
    have e1 : ¬ nx = nx2 := by omega
    have e2 : ¬ nx + 1 = nx2 := by omega
    have e3 : ¬ nx = nx2 + 1 := by omega
    have e4 : nx ≤ nx2 := by omega
    have e5 : nx ≤ nx2 + 1 := by omega
    cases hb2 : (⟨zone, line, minute, holder⟩ : Ctx).valid
    · simp [hb2]
      exact wF_own hw (by simp) (by simp [holdsV, hb2])
    · have fin' : ∀ r, r = Value.bool (rideV kind ⟨kind, mask, fr, to, name, num⟩ ⟨zone, line, minute, holder⟩) →
          r = Value.bool (holdsV ⟨kind, mask, fr, to, name, num⟩ ⟨zone, line, minute, holder⟩) := by
        intro r h; rw [h]; simp [holdsV, hb, hb2]
      have hk := Pred.valid_kind hb
      simp only at hk
      rcases (by omega : kind = 1 ∨ kind = 2 ∨ kind = 3 ∨ kind = 4 ∨ kind = 5 ∨ kind = 6 ∨ kind = 7) with rfl | rfl | rfl | rfl | rfl | rfl | rfl
      · simp [hb2, e1, e2, e3, e4, e5, oz]
        refine wCall_eq (Q := fun r => r = .bool _) (hz _ ⟨zone, line, minute, holder⟩ hp hb2 _ _) fun r3 nx3 hr3 hn3 => ?_
        simp
        exact wF_own hw (by simp [e4, e5]) ⟨fin' _ (by rw [hr3]; rfl), rfl⟩
      · simp [hb2, e1, e2, e3, e4, e5, ol]
        refine wCall_eq (Q := fun r => r = .bool _) (hl _ ⟨zone, line, minute, holder⟩ hp hb2 _ _) fun r3 nx3 hr3 hn3 => ?_
        simp
        exact wF_own hw (by simp [e4, e5]) ⟨fin' _ (by rw [hr3]; rfl), rfl⟩
      · simp [hb2, e1, e2, e3, e4, e5, od]
        refine wCall_eq (Q := fun r => r = .bool _) (hd _ ⟨zone, line, minute, holder⟩ hp hb2 _ _) fun r3 nx3 hr3 hn3 => ?_
        simp
        exact wF_own hw (by simp [e4, e5]) ⟨fin' _ (by rw [hr3]; rfl), rfl⟩
      · simp [hb2, e1, e2, e3, e4, e5, ot]
        refine wCall_eq (Q := fun r => r = .bool _) (ht _ ⟨zone, line, minute, holder⟩ hp hb2 _ _) fun r3 nx3 hr3 hn3 => ?_
        simp
        exact wF_own hw (by simp [e4, e5]) ⟨fin' _ (by rw [hr3]; rfl), rfl⟩
      · simp [hb2, e1, e2, e3, e4, e5, oda]
        refine wCall_eq (Q := fun r => r = .bool _) (hda _ ⟨zone, line, minute, holder⟩ hp hb2 _ _) fun r3 nx3 hr3 hn3 => ?_
        simp
        exact wF_own hw (by simp [e4, e5]) ⟨fin' _ (by rw [hr3]; rfl), rfl⟩
      · simp [hb2, e1, e2, e3, e4, e5, oh]
        refine wCall_eq (Q := fun r => r = .bool _) (hh _ ⟨zone, line, minute, holder⟩ hp hb2 _ _) fun r3 nx3 hr3 hn3 => ?_
        simp
        exact wF_own hw (by simp [e4, e5]) ⟨fin' _ (by rw [hr3]; rfl), rfl⟩
      · simp [hb2, e1, e2, e3, e4, e5, or]
        refine wCall_eq (Q := fun r => r = .bool _) (hr _ ⟨zone, line, minute, holder⟩ hp hb2 _ _) fun r3 nx3 hr3 hn3 => ?_
        simp
        exact wF_own hw (by simp [e4, e5]) ⟨fin' _ (by rw [hr3]; rfl), rfl⟩
end Go.PE
namespace Go.PE
open Go
@[simp] theorem Ctx.len (c : Ctx) : c.cells.length = 4 := _root_.id rfl
@[simp] theorem Pred.len (p : Pred) : p.cells.length = 6 := _root_.id rfl
@[simp] theorem Ctx.dg1s (c : Ctx) : c.cells.map dg1 = c.cells := _root_.id rfl
@[simp] theorem Pred.dg1s (p : Pred) : p.cells.map dg1 = p.cells := _root_.id rfl
@[simp] theorem Ctx.take4 (c : Ctx) : c.cells.take 4 = c.cells := _root_.id rfl
@[simp] theorem Pred.take6 (p : Pred) : p.cells.take 6 = p.cells := _root_.id rfl
theorem Ctx.ag (c : Ctx) : PE.ag c.cells = c.v := rfl
theorem Pred.ag (p : Pred) : PE.ag p.cells = p.v := rfl
def RHoldsOK (P : Program) (f : Nat) : Prop := ∀ (p : Pred) (c : Ctx), p.wf → c.wf → ∀ (H : Nat → Option (List Value)) (nx : Nat),
    PCalls P f [p.v, c.v] H nx (fun _ => False) (fun r H' _ => r = .bool (holdsV p c) ∧ H' = H)
theorem rholds_ok {P : Program} {f v cv : Nat} (hc : compFn P f = some (99, ref06_HoldsC v cv, [.t 4])) (hv : RValidOK P v) (hcv : RCValidOK P cv) : RHoldsOK P f := by
  intro p c hp hcw H nx
  refine PCalls_of hc (by simp) fun hw => ?_
  obtain ⟨kind, mask, fr, to, name, num⟩ := p
  obtain ⟨zone, line, minute, holder⟩ := c
  have hm0 : 0 ≤ mask := hp.2.1
  have hm1 : mask < 18446744073709551616 := hp.2.2
  simp [ref06_HoldsC, Pred.v, Ctx.v, Pred.cells, Ctx.cells]
  refine wCall_eq (Q := fun r => r = .bool _) (hv ⟨kind, mask, fr, to, name, num⟩ hp.1 hm0 _ _) fun r1 nx1 hr1 hn1 => ?_
  subst hr1
  simp at hn1
  cases hb : (⟨kind, mask, fr, to, name, num⟩ : Pred).valid
  · simp [hb]
    exact wF_own hw (by simp) (by simp [holdsV, hb])
  · simp [hb]
    refine wCall_eq (Q := fun r => r = .bool _) (hcv ⟨zone, line, minute, holder⟩ hcw _ _) fun r2 nx2 hr2 hn2 => ?_
    subst hr2
    simp at hn2
    cases hb2 : (⟨zone, line, minute, holder⟩ : Ctx).valid
    · simp [hb2]
      exact wF_own hw (by simp) (by simp [holdsV, hb2])
    · have fin' : ∀ r, r = Value.bool (rideV kind ⟨kind, mask, fr, to, name, num⟩ ⟨zone, line, minute, holder⟩) →
          r = Value.bool (holdsV ⟨kind, mask, fr, to, name, num⟩ ⟨zone, line, minute, holder⟩) := by
        intro r h; rw [h]; simp [holdsV, hb, hb2]
      have hk := Pred.valid_kind hb
      simp only at hk
      obtain ⟨h1, h2, h3, h4, h5, h6, h7⟩ := (Ctx.valid_iff _).1 hb2
      simp only at h1 h2 h3 h4 h5 h6 h7
      rcases (by omega : kind = 1 ∨ kind = 2 ∨ kind = 3 ∨ kind = 4 ∨ kind = 5 ∨ kind = 6 ∨ kind = 7) with rfl | rfl | rfl | rfl | rfl | rfl | rfl
      · have hz : IntKind.u64.wrap zone = zone := by rw [IntKind.wrap_u64]; omega
        have hbt := bit_rem hm0 h1 h2
        simp [hb2, hz, h1, IntKind.bits]
        exact wF_own hw (by simp) ⟨fin' _ (by simp [rideV, ← hbt]), rfl⟩
      · have hz : IntKind.u64.wrap line = line := by rw [IntKind.wrap_u64]; omega
        have hbt := bit_rem hm0 h3 (by omega)
        simp [hb2, hz, h3, IntKind.bits]
        exact wF_own hw (by simp) ⟨fin' _ (by simp [rideV, ← hbt]), rfl⟩
      · have hd := (days_eq h5 h6).1
        have hd0 : 0 ≤ minute / 1440 % 7 := by omega
        have hz : IntKind.u64.wrap (minute / 1440 % 7) = minute / 1440 % 7 := by rw [IntKind.wrap_u64]; omega
        have hbt := bit_rem hm0 hd0 (by omega)
        simp [hb2, hd, hz, hd0, IntKind.bits]
        exact wF_own hw (by simp) ⟨fin' _ (by simp [rideV, ← hbt]), rfl⟩
      · by_cases c1 : fr ≤ minute
        · simp [hb2, c1]
          exact wF_own hw (by simp) ⟨fin' _ (by simp [rideV, c1]), rfl⟩
        · simp [hb2, c1]
          exact wF_own hw (by simp) ⟨fin' _ (by simp [rideV, c1]), rfl⟩
      · have hmm : minute.tmod 1440 = minute % 1440 := Int.tmod_eq_emod_of_nonneg h5
        by_cases c1 : fr ≤ to
        · by_cases c2 : fr ≤ minute % 1440
          · simp [hb2, hmm, c1, c2]
            exact wF_own hw (by simp) ⟨fin' _ (by simp [rideV, dailyV, c1, c2]), rfl⟩
          · simp [hb2, hmm, c1, c2]
            exact wF_own hw (by simp) ⟨fin' _ (by simp [rideV, dailyV, c1, c2]), rfl⟩
        · by_cases c2 : fr ≤ minute % 1440
          · simp [hb2, hmm, c1, c2]
            exact wF_own hw (by simp) ⟨fin' _ (by simp [rideV, dailyV, c1, c2]), rfl⟩
          · simp [hb2, hmm, c1, c2]
            exact wF_own hw (by simp) ⟨fin' _ (by simp [rideV, dailyV, c1, c2]), rfl⟩
      · simp [hb2]
        exact wF_own hw (by simp) ⟨fin' _ (by simp [rideV, Bool.beq_comm]), rfl⟩
      · simp [hb2]
        exact wF_own hw (by simp) ⟨fin' _ (by simp [rideV]), rfl⟩
/-- the first that does not hold -/
def allV : List Pred → Ctx → Int → Int × Bool
  | [], _, _ => (0, true)
  | p :: r, c, i => if holdsV p c then allV r c (i + 1) else (i, false)
def allP (l : List Pred) (c : Ctx) : Value := tup [.int .i64 (allV l c 0).1, .bool (allV l c 0).2]
theorem allV_step {l : List Pred} {c : Ctx} {i : Nat} (hi : i < l.length) : allV (l.drop i) c i = if holdsV l[i] c then allV (l.drop (i + 1)) c (i + 1 : Nat) else ((i : Int), false) := by
  rw [List.drop_eq_getElem_cons hi]
  simp [allV]
def AllOK (P : Program) (f g : Nat) : Prop := ∀ (l : List Pred) (c : Ctx), (∀ p ∈ l, p.wf) → c.wf → l.length ≤ maxLen → ∀ (H : Nat → Option (List Value)) (nx : Nat), H g = some bitsRow → g < nx →
    PCalls P f [deep (l.map Pred.v), c.v] H nx (fun _ => False) (fun r H' _ => r = allP l c ∧ H' = H)
theorem elem_pred {l : List Pred} {n : Int} (h0 : 0 ≤ n) (hn : n.toNat < l.length) : elemAt (l.map Pred.v) n 6 = some (dptr 0 l[n.toNat].cells) := elemAt_map h0 hn rfl rfl
theorem all_ok {P : Program} {f g h : Nat} (hc : compFn P f = some (21, holds_AllC h, [.t 4, .t 5])) (hh : HoldsOK P h g) : AllOK P f g := by
  intro l c hl hcw hlen H nx hg hgn
  have hg1 : ¬ g = nx := by omega
  refine PCalls_of hc (by simp) fun hw => ?_
  have hmx : (maxLen : Int) = 9223372036854775807 := rfl
  simp [holds_AllC, Ctx.v]
  refine wpc_loop _ _ _ _ _ _ (fun s => ∃ i : Nat, i ≤ l.length ∧ s.t 3 = ptr nx 0 ∧ s.t 8 = deep (l.map Pred.v) ∧ s.t 9 = .int .i64 l.length ∧ s.t 10 = .int .i64 i ∧ s.H = upd H nx (some c.cells) ∧ nx + 1 ≤ s.nx ∧ allV l c 0 = allV (l.drop i) c i)
        (fun s => match s.t 10 with | .int _ i => (l.length - i).toNat | _ => 0) _ ⟨0, by omega, by simp, by simp, by simp, by simp, rfl, by simp, by simp⟩ ?_
  rintro ⟨t, H', nx'⟩ ⟨i, hi1, e3, e8, e9, e10, rfl, hnx, hall⟩
  simp only at e3 e8 e9 e10 hnx
  simp [e3, e8, e9, e10]
  refine wB_of (fun hlt => ?_) (fun hlt => ?_)
  · simp at hlt
    have he := elem_pred (l := l) (n := (i : Int)) (by omega) (by simpa using hlt)
    simp at he
    have hne : ¬ nx = nx' := by omega
    have hg2 : ¬ g = nx' := by omega
    have hnn : nx ≤ nx' := by omega
    simp [e3, e8, e9, e10, he, hne, hnn]
    refine wCall_eq (Q := fun r => r = .bool _) (hh l[i] c (hl _ (List.getElem_mem _)) hcw _ _ (by simp [hg, hg1, hg2]) (by simp; omega)) fun r1 nx1 hr1 hn1 => ?_
    subst hr1
    simp at hn1
    have hst := allV_step (c := c) hlt
    cases hb : holdsV l[i] c
    · simp [hb]
      refine wF_own hw (by simp [hnn]) ⟨?_, rfl⟩
      simp [allP, hall, hst, hb]
    · simp [hb, e10]
      rw [w64 (x := (i : Int) + 1) (by omega) (by omega)]
      refine kLoop_nrm _ _ _ (upd H nx (some c.cells)) ?_ ⟨i + 1, by omega, by simp [e3], by simp [e8], by simp [e9], by simp, rfl, by simp; omega, ?_⟩ (by simp; omega)
      · exact (Sub_refl _ _).upd hnn (by simp [Ne.symm hne]; exact hw _ hnn)
      · rw [hall, hst, hb]; rfl
  · simp at hlt
    refine wF_own hw (by simp) ⟨?_, rfl⟩
    rw [List.drop_eq_nil_of_le (by omega)] at hall
    simp [allP, hall, allV]
def RAllOK (P : Program) (f : Nat) : Prop := ∀ (l : List Pred) (c : Ctx), (∀ p ∈ l, p.wf) → c.wf → l.length ≤ maxLen → ∀ (H : Nat → Option (List Value)) (nx : Nat),
    PCalls P f [deep (l.map Pred.v), c.v] H nx (fun _ => False) (fun r H' _ => r = allP l c ∧ H' = H)
theorem rall_ok {P : Program} {f h : Nat} (hc : compFn P f = some (21, ref06_AllC h, [.t 4, .t 5])) (hh : RHoldsOK P h) : RAllOK P f := by
  intro l c hl hcw hlen H nx
  refine PCalls_of hc (by simp) fun hw => ?_
  have hmx : (maxLen : Int) = 9223372036854775807 := rfl
  simp [ref06_AllC, Ctx.v]
  refine wpc_loop _ _ _ _ _ _ (fun s => ∃ i : Nat, i ≤ l.length ∧ s.t 0 = deep (l.map Pred.v) ∧ s.t 3 = ptr nx 0 ∧ s.t 6 = .int .i64 i ∧ s.H = upd H nx (some c.cells) ∧ nx + 1 ≤ s.nx ∧ allV l c 0 = allV (l.drop i) c i)
        (fun s => match s.t 6 with | .int _ i => (l.length - i).toNat | _ => 0) _ ⟨0, by omega, by simp, by simp, by simp, rfl, by simp, by simp⟩ ?_
  rintro ⟨t, H', nx'⟩ ⟨i, hi1, e0, e3, e6, rfl, hnx, hall⟩
  simp only at e0 e3 e6 hnx
  simp [e0, e3, e6]
  refine wB_of (fun hlt => ?_) (fun hlt => ?_)
  · simp at hlt
    have he := elem_pred (l := l) (n := (i : Int)) (by omega) (by simpa using hlt)
    simp at he
    simp [e0, e3, e6, he]
    refine wqCall_of (hh l[i] c (hl _ (List.getElem_mem _)) hcw _ _) rfl (fun _ _ _ h => h.1) ?_
    have hst := allV_step (c := c) hlt
    cases hb : holdsV l[i] c
    · simp [hb, e6]
      refine wF_own hw (by simp) ⟨?_, rfl⟩
      simp [allP, hall, hst, hb]
    · simp [hb, e6]
      rw [w64 (x := (i : Int) + 1) (by omega) (by omega)]
      refine kLoop_nrm _ _ _ (upd H nx (some c.cells)) (Sub_refl _ _) ⟨i + 1, by omega, by simp [e0], by simp [e3], by simp, rfl, by simp; omega, ?_⟩ (by simp; omega)
      rw [hall, hst, hb]; rfl
  · simp at hlt
    refine wF_own hw (by simp) ⟨?_, rfl⟩
    rw [List.drop_eq_nil_of_le (by omega)] at hall
    simp [allP, hall, allV]
end Go.PE
namespace Go.PE
open Go
/-- a predicate of the deck's -/
def isPred (rides : Bool) (v : Value) : Prop := ∃ q : Pred, v = q.v ∧ q.valid = true ∧ q.wf ∧ (rides = false → q.kind ≠ 7)
theorem names_good {b : ByteArray} (h : b ∈ names) : nameV b = true := by
  simp only [names, List.mem_cons, List.not_mem_nil, or_false] at h
  rcases h with rfl | rfl | rfl | rfl | rfl | rfl | rfl | rfl <;> decide +kernel
theorem names_size {b : ByteArray} (h : b ∈ names) : b.size ≤ 16 := by
  have := names_good h
  simp only [nameV, Bool.and_eq_true, decide_eq_true_eq] at this
  omega
theorem maskV_of {m : Int} {n : Nat} (h : 0 < m) (h1 : m < 2 ^ n) (hn : n ≤ 64) : maskV m n = true := by
  by_cases e : n = 64
  · subst e; rw [show ((64 : Nat) : Int) = 64 from rfl, maskV_64]; simp; omega
  · rw [maskV_lt (by omega) (by omega)]; simp [h1]; omega
theorem maskV_isMask {m n : Int} (h0 : 1 ≤ n) (hn : n ≤ 64) (h : 0 < m) (h1 : m < 2 ^ n.toNat) : maskV m n = true := by
  have := maskV_of (n := n.toNat) h h1 (by omega)
  rwa [show ((n.toNat : Nat) : Int) = n by omega] at this
theorem mask_lt64 {m n : Int} (hn : n ≤ 64) (h1 : m < 2 ^ n.toNat) : m < 18446744073709551616 := by
  have h2 : (2 : Nat) ^ n.toNat ≤ 2 ^ 64 := Nat.pow_le_pow_right (by omega) (by omega)
  have e2 : (2 : Int) ^ n.toNat = ((2 ^ n.toNat : Nat) : Int) := by simp
  rw [e2] at h1
  omega
theorem predicate_w {P : Program} {f r m mi nx_ n u : Nat} (hc : compFn P f = some (81, made_Deck_PredicateC r m mi nx_ n u, [.cA 4 6])) (hn : NextW P nx_)
    (hr : ∀ lo hi : Int, 0 ≤ lo → lo ≤ hi → hi < 4611686018427387904 → Draws P r [.int .i64 lo, .int .i64 hi] (isI lo hi)) (hm : ∀ n : Int, 1 ≤ n → n ≤ 64 → Draws P m [.int .i64 n] (isMask n))
    (hmi : Draws P mi [] (isI 0 67108864)) (hN : Draws P n [] isN) (hu : ∀ n : Int, 2 ≤ n → n < 4611686018427387903 → Draws P u [.int .i64 n] (isI 0 n)) (b : Bool) : Draws P f [.bool b] (isPred b) := by
  intro k l at_ ha hl H nx hk
  refine PCalls_of hc (by simp) fun hw => ?_
  have hkn : k < nx := by
    rcases Nat.lt_or_ge k nx with h | h
    · exact h
    · have := hw k h; rw [hk] at this; cases this
  have d1 : ¬ k = nx := by omega
  simp [made_Deck_PredicateC]
  refine wCall_drawL (hr 1 7 (by omega) (by omega) (by omega)) ha hl (by simp [hk, d1]) (.inr rfl) fun p1 at1 n1 hp1 ha1 hn1 => ?_
  obtain ⟨kind, rfl, hk1, hk7⟩ := hp1
  simp at hn1
  have d2 : ¬ k = n1 := by omega
  have d3 : ¬ nx = n1 := by omega
  have d4 : nx ≤ n1 := by omega
  have d5 : ¬ nx = k := by omega
  have d6 : ¬ n1 = k := by omega
  have d7 : ¬ n1 = nx := by omega
  have tail : ∀ (H' : Nat → Option (List Value)) (nx' : Nat) (at' : Int) (q : Pred), 0 ≤ at' → H' k = some (dk l at') → (∀ j, j < nx → j ≠ k → H' j = H j) → q.valid = true → q.wf → (b = false → q.kind ≠ 7) →
      wF (some [q.v]) nx (fun p H' _ => isPred b p ∧ Drew H k l H') H' nx' := by
    intro H' nx' at' q h0 ek hoth hv hwf hb
    exact wF_sub ((own_k (r := some (dk l at')) ek hoth).sub (none_k hw hkn)) ⟨⟨q, rfl, hv, hwf, hb⟩, at', h0, rfl⟩
  by_cases h1 : kind = 1
  · subst h1
    simp [d1, d2, d3, d4, d5, d6, d7]
    refine wCall_drawL (hm 64 (by omega) (by omega)) ha1 hl (by simp [d1, d2, d5, d6]) (.inr rfl) fun p2 at2 n2 hp2 ha2 hn2 => ?_
    obtain ⟨v, rfl, hv0, hv1⟩ := hp2
    simp [d1, d2, d3, d4, d5, d6, d7]
    refine tail _ _ at2 ⟨1, v, 0, 0, ⟨#[]⟩, 0⟩ ha2 (by simp [d1, d2, d5, d6]) (fun j hj hjk => ?_) (by simp [Pred.valid, maskV_isMask (n := 64) (by omega) (by omega) hv0 hv1]) ⟨by simp, Int.le_of_lt hv0, mask_lt64 (by omega) hv1⟩ (by simp)
    simp [show ¬ j = nx by omega, show ¬ j = n1 by omega, hjk]
  by_cases h2 : kind = 2
  · subst h2
    simp [d1, d2, d3, d4, d5, d6, d7]
    refine wCall_drawL (hm 32 (by omega) (by omega)) ha1 hl (by simp [d1, d2, d5, d6]) (.inr rfl) fun p2 at2 n2 hp2 ha2 hn2 => ?_
    obtain ⟨v, rfl, hv0, hv1⟩ := hp2
    simp [d1, d2, d3, d4, d5, d6, d7]
    refine tail _ _ at2 ⟨2, v, 0, 0, ⟨#[]⟩, 0⟩ ha2 (by simp [d1, d2, d5, d6]) (fun j hj hjk => ?_) (by simp [Pred.valid, maskV_isMask (n := 32) (by omega) (by omega) hv0 hv1]) ⟨by simp, Int.le_of_lt hv0, mask_lt64 (by omega) hv1⟩ (by simp)
    simp [show ¬ j = nx by omega, show ¬ j = n1 by omega, hjk]
  by_cases h3 : kind = 3
  · subst h3
    simp [d1, d2, d3, d4, d5, d6, d7]
    refine wCall_drawL (hm 7 (by omega) (by omega)) ha1 hl (by simp [d1, d2, d5, d6]) (.inr rfl) fun p2 at2 n2 hp2 ha2 hn2 => ?_
    obtain ⟨v, rfl, hv0, hv1⟩ := hp2
    simp [d1, d2, d3, d4, d5, d6, d7]
    refine tail _ _ at2 ⟨3, v, 0, 0, ⟨#[]⟩, 0⟩ ha2 (by simp [d1, d2, d5, d6]) (fun j hj hjk => ?_) (by simp [Pred.valid, maskV_isMask (n := 7) (by omega) (by omega) hv0 hv1]) ⟨by simp, Int.le_of_lt hv0, mask_lt64 (by omega) hv1⟩ (by simp)
    simp [show ¬ j = nx by omega, show ¬ j = n1 by omega, hjk]
  by_cases h4 : kind = 4
  · subst h4
    simp [d1, d2, d3, d4, d5, d6, d7]
    refine wCall_drawL hmi ha1 hl (by simp [d1, d2, d5, d6]) (.inr rfl) fun p2 at2 n2 hp2 ha2 hn2 => ?_
    obtain ⟨v, rfl, hv0, hv1⟩ := hp2
    simp [d1, d2, d3, d4, d5, d6, d7]
    refine wCall_drawL hmi ha2 hl (by simp [d1, d2, d5, d6]) (.inr rfl) fun p3 at3 n3 hp3 ha3 hn3 => ?_
    obtain ⟨w, rfl, hw0, hw1⟩ := hp3
    simp [d1, d2, d3, d4, d5, d6, d7]
    refine tail _ _ at3 ⟨4, 0, if w < v then w else v, if v < w then w else v, ⟨#[]⟩, 0⟩ ha3 (by simp [d1, d2, d5, d6]) (fun j hj hjk => ?_) ?_ ⟨by simp, by simp, by simp⟩ (by simp)
    · simp [show ¬ j = nx by omega, show ¬ j = n1 by omega, hjk]
    · simp [Pred.valid]; split <;> split <;> omega
  by_cases h5 : kind = 5
  · subst h5
    simp [d1, d2, d3, d4, d5, d6, d7]
    refine wCall_drawL (hn 1440 (by omega) (by omega)) ha1 hl (by simp [d1, d2, d5, d6]) (.inr rfl) fun p2 at2 n2 hp2 ha2 hn2 => ?_
    obtain ⟨v, rfl, hv0, hv1⟩ := hp2
    simp [d1, d2, d3, d4, d5, d6, d7]
    refine wCall_drawL (hn 1440 (by omega) (by omega)) ha2 hl (by simp [d1, d2, d5, d6]) (.inr rfl) fun p3 at3 n3 hp3 ha3 hn3 => ?_
    obtain ⟨w, rfl, hw0, hw1⟩ := hp3
    simp [d1, d2, d3, d4, d5, d6, d7]
    refine wCall_drawL (hn 3 (by omega) (by omega)) ha3 hl (by simp [d1, d2, d5, d6]) (.inr rfl) fun p4 at4 n4 hp4 ha4 hn4 => ?_
    obtain ⟨x, rfl, hx0, hx1⟩ := hp4
    simp [d1, d2, d3, d4, d5, d6, d7]
    refine wB_of (fun hx => ?_) (fun hx => ?_)
    · refine ⟨?_, ?_⟩
      all_goals
        refine wCall_drawL (hn 3 (by omega) (by omega)) ha4 hl (by simp [d1, d2, d5, d6]) (.inr rfl) fun p5 at5 n5 hp5 ha5 hn5 => ?_
        obtain ⟨y, rfl, hy0, hy1⟩ := hp5
        simp [d1, d2, d3, d4, d5, d6, d7]
        rw [w64 (x := v + y) (by omega) (by omega), w64 (x := v + y + 1440) (by omega) (by omega), w64 (x := v + y + 1440 - 1) (by omega) (by omega), Int.tmod_eq_emod_of_nonneg (by omega)]
        refine tail _ _ at5 ⟨5, 0, v, (v + y + 1440 - 1) % 1440, ⟨#[]⟩, 0⟩ ha5 (by simp [d1, d2, d5, d6]) (fun j hj hjk => ?_) ?_ ⟨by simp, by simp, by simp⟩ (by simp)
        · simp [show ¬ j = nx by omega, show ¬ j = n1 by omega, hjk]
        · simp [Pred.valid]; omega
    · refine tail _ _ at4 ⟨5, 0, v, w, ⟨#[]⟩, 0⟩ ha4 (by simp [d1, d2, d5, d6]) (fun j hj hjk => ?_) ?_ ⟨by simp, by simp, by simp⟩ (by simp)
      · simp [show ¬ j = nx by omega, show ¬ j = n1 by omega, hjk]
      · simp [Pred.valid]; omega
  by_cases h6 : kind = 6
  · subst h6
    simp [d1, d2, d3, d4, d5, d6, d7]
    refine wCall_drawL hN ha1 hl (by simp [d1, d2, d5, d6]) (.inr rfl) fun p2 at2 n2 hp2 ha2 hn2 => ?_
    obtain ⟨v, hv, rfl⟩ := hp2
    simp [d1, d2, d3, d4, d5, d6, d7]
    refine tail _ _ at2 ⟨6, 0, 0, 0, v, 0⟩ ha2 (by simp [d1, d2, d5, d6]) (fun j hj hjk => ?_) (by simp [Pred.valid, names_good hv]) ⟨by have := names_size hv; simp only; omega, by simp, by simp⟩ (by simp)
    simp [show ¬ j = nx by omega, show ¬ j = n1 by omega, hjk]
  · obtain rfl : kind = 7 := by omega
    cases b
    · simp [d1, d2, d3, d4, d5, d6, d7]
      refine wCall_drawL hmi ha1 hl (by simp [d1, d2, d5, d6]) (.inr rfl) fun p2 at2 n2 hp2 ha2 hn2 => ?_
      obtain ⟨v, rfl, hv0, hv1⟩ := hp2
      simp [d1, d2, d3, d4, d5, d6, d7]
      refine wCall_drawL hmi ha2 hl (by simp [d1, d2, d5, d6]) (.inr rfl) fun p3 at3 n3 hp3 ha3 hn3 => ?_
      obtain ⟨w, rfl, hw0, hw1⟩ := hp3
      simp [d1, d2, d3, d4, d5, d6, d7]
      refine tail _ _ at3 ⟨4, 0, if w < v then w else v, if v < w then w else v, ⟨#[]⟩, 0⟩ ha3 (by simp [d1, d2, d5, d6]) (fun j hj hjk => ?_) ?_ ⟨by simp, by simp, by simp⟩ (by simp)
      · simp [show ¬ j = nx by omega, show ¬ j = n1 by omega, hjk]
      · simp [Pred.valid]; split <;> split <;> omega
    · simp [d1, d2, d3, d4, d5, d6, d7]
      refine wCall_drawL (hu 1000000 (by omega) (by omega)) ha1 hl (by simp [d1, d2, d5, d6]) (.inr rfl) fun p2 at2 n2 hp2 ha2 hn2 => ?_
      obtain ⟨v, rfl, hv0, hv1⟩ := hp2
      simp [d1, d2, d3, d4, d5, d6, d7]
      refine tail _ _ at2 ⟨7, 0, 0, 0, ⟨#[]⟩, v⟩ ha2 (by simp [d1, d2, d5, d6]) (fun j hj hjk => ?_) (by simp [Pred.valid, hv0, hv1]) ⟨by simp, by simp, by simp⟩ (by simp)
      simp [show ¬ j = nx by omega, show ¬ j = n1 by omega, hjk]
end Go.PE
namespace Go.PE
open Go
@[simp] theorem Pred.lcv (p : Pred) : lc p.v = p.cells := _root_.id rfl
@[simp] theorem Pred.cellsOf (p : Pred) : PE.cellsOf p.v = some p.cells := _root_.id rfl
@[simp] theorem Pred.dgv (p : Pred) : dg p.v = p.v := _root_.id rfl
@[simp] theorem Pred.dgTv (p : Pred) : dgT p.v = p.v := _root_.id rfl
@[simp] theorem Ctx.dgv (p : Ctx) : dg p.v = p.v := _root_.id rfl
@[simp] theorem Ctx.cellsOf (p : Ctx) : PE.cellsOf p.v = some p.cells := _root_.id rfl
def GoodPred (b : Bool) (q : Pred) : Prop := q.valid = true ∧ q.wf ∧ (b = false → q.kind ≠ 7)
def isPreds (e : Nat) (n : Int) (b : Bool) (v : Value) : Prop := ∃ qs : List Pred, v = lin e (qs.map Pred.v) ∧ (qs.length : Int) ≤ n ∧ ∀ q ∈ qs, GoodPred b q
theorem predicates_w {P : Program} {f e nx_ p : Nat} (hc : compFn P f = some (24, made_Deck_PredicatesC e nx_ p, [.t 6])) (hn : NextW P nx_) (hp : ∀ b, Draws P p [.bool b] (isPred b)) (n : Int) (b : Bool) (h0 : 0 ≤ n) (h1 : n ≤ 1000000) :
    Draws P f [.int .i64 n, .bool b] (isPreds e n b) := by
  intro k l at_ ha hl H nx hk
  refine PCalls_of hc (by simp) fun hw => ?_
  have hkn : k < nx := by
    rcases Nat.lt_or_ge k nx with h | h
    · exact h
    · have := hw k h; rw [hk] at this; cases this
  simp [made_Deck_PredicatesC]
  rw [w64 (x := n + 1) (by omega) (by omega)]
  refine wCall_drawL (hn (n + 1) (by omega) (by omega)) ha hl (by simp [hk]) (.inr rfl) fun p1 at1 n1 hp1 ha1 hn1 => ?_
  obtain ⟨m, rfl, hm0, hm1⟩ := hp1
  simp at hn1
  simp
  refine wpc_loop _ _ _ _ _ _ (fun s => ∃ (qs : List Pred) (at' : Int), 0 ≤ at' ∧ s.t 0 = ptr k 0 ∧ s.t 2 = .bool b ∧ s.t 7 = lin e (qs.map Pred.v) ∧ (∃ j : Int, s.t 8 = .int .i64 j ∧ 0 ≤ j ∧ j + qs.length ≤ n) ∧ (∀ q ∈ qs, GoodPred b q) ∧ s.H = upd H k (some (dk l at')) ∧ nx ≤ s.nx)
    (fun s => match s.t 8 with | .int _ i => i.toNat | _ => 0) _ ⟨[], at1, ha1, by simp, by simp, by simp, ⟨m, by simp, by omega, by simp; omega⟩, by simp, rfl, by simpa using hn1⟩ ?_
  rintro ⟨t, H', nx'⟩ ⟨qs, at', ha', e0, e2, e7, ⟨j, e8, hj0, hj1⟩, hq, rfl, hnx⟩
  simp only at e0 e2 e7 e8 hnx
  simp [e0, e2, e7, e8]
  refine wB_of (fun hlt => ?_) (fun hlt => ?_)
  · simp at hlt
    refine wCall_drawL (hp b) ha' hl (by simp) (.inr rfl) fun p2 at2 n2 hp2 ha2 hn2 => ?_
    obtain ⟨q, rfl, hv, hwf, hb⟩ := hp2
    simp [e0, e2, e7, e8, maxLen]
    refine ⟨by omega, by omega, ?_⟩
    rw [w64 (x := j - 1) (by omega) (by omega)]
    refine kLoop_nrm _ _ _ (upd H k (some (dk l at2))) (Sub_refl _ _) ⟨qs ++ [q], at2, ha2, by simp [e0], by simp [e2], by simp, ⟨j - 1, by simp, by omega, by simp; omega⟩, ?_, rfl, by simp at hn2; simp; omega⟩ (by simp; omega)
    intro x hx
    simp at hx
    rcases hx with hx | rfl
    · exact hq x hx
    · exact ⟨hv, hwf, hb⟩
  · simp at hlt
    refine wF_of ⟨⟨qs, by simp, by omega, hq⟩, at', ha', rfl⟩
def LawOK (P : Program) (f g : Nat) : Prop := ∀ (H : Nat → Option (List Value)) (nx : Nat), H g = some bitsRow → g < nx → PCalls P f [] H nx (fun _ => False) (fun r H' _ => r = .bool true ∧ H' = H)
theorem awake7_ok {P : Program} {f g h : Nat} (hc : compFn P f = some (12, law07_awakeC h, [.t 0])) (hh : HoldsOK P h g) : LawOK P f g := by
  intro H nx hg hgn
  refine PCalls_of hc (by simp) fun hw => ?_
  have hg1 : ¬ g = nx := by omega
  simp [law07_awakeC]
  have h1 : holdsV ⟨5, 0, 1380, 300, ⟨#[]⟩, 0⟩ ⟨0, 0, 10, ⟨#[97]⟩⟩ = true := by decide +kernel
  have h2 : holdsV ⟨5, 0, 1380, 300, ⟨#[]⟩, 0⟩ ⟨0, 0, 600, ⟨#[97]⟩⟩ = false := by decide +kernel
  refine wCall_eq (Q := fun r => r = .bool _) (hh ⟨5, 0, 1380, 300, ⟨#[]⟩, 0⟩ ⟨0, 0, 10, ⟨#[97]⟩⟩ ⟨by simp, by simp, by simp⟩ (by unfold Ctx.wf; decide +kernel) _ _ (by simp [hg, hg1]) (by simp; omega)) fun r1 n1 hr1 hn1 => ?_
  subst hr1
  simp [h1]
  refine wCall_eq (Q := fun r => r = .bool _) (hh ⟨5, 0, 1380, 300, ⟨#[]⟩, 0⟩ ⟨0, 0, 600, ⟨#[97]⟩⟩ ⟨by simp, by simp, by simp⟩ (by unfold Ctx.wf; decide +kernel) _ _ (by simp [hg, hg1]) (by simp at hn1; simp; omega)) fun r1 n1 hr1 hn1 => ?_
  subst hr1
  simp [h2]
  exact wF_own hw (by simp) (by simp)
/-- the deck's lists -/
def dl (l : List Int) : Value := deep (l.map (.int .i64))
def NewOK (P : Program) (f : Nat) : Prop := ∀ (l : List Int) (H : Nat → Option (List Value)) (nx : Nat), PCalls P f [deep (l.map (.int .i64))] H nx (fun _ => False) (fun p H' nx' => p = ptr nx 0 ∧ H' = upd H nx (some (dk l 0)) ∧ nx' = nx + 1)
theorem isCtx_ok {v : Value} (h : isCtx v) : ∃ c : Ctx, v = c.v ∧ c.valid = true ∧ c.wf := by
  obtain ⟨z, l, m, b, rfl, h1, h2, h3, h4, h5, h6, h7⟩ := h
  refine ⟨⟨z, l, m, b⟩, rfl, by simp [Ctx.valid, h1, h2, h3, h4, h5, h6, names_good h7], ?_⟩
  have := names_size h7
  unfold Ctx.wf; simp only; omega
end Go.PE
namespace Go.PE
open Go
theorem max_len : (maxLen : Int) = 9223372036854775807 := rfl
theorem pred_of {P : Program} {t : Nat} (h : ∃ fs, P.underlying t = some (.struct fs)) (hf : flat P 3 t = some [.int .i64, .int .u64, .int .i64, .int .i64, .str, .int .i64]) {cs : List Value} (hp : PTy P t cs) : ∃ q : Pred, toV P t cs = q.v ∧ q.wf := by
  obtain ⟨fs, h⟩ := h
  obtain ⟨v1, w1, rfl, ⟨k, rfl, _, _⟩, k1⟩ := fk_cons (flat_ok 3 t _ cs hf hp)
  obtain ⟨v2, w2, rfl, ⟨m, rfl, hm0, hm1⟩, k2⟩ := fk_cons k1
  obtain ⟨v3, w3, rfl, ⟨fr, rfl, _, _⟩, k3⟩ := fk_cons k2
  obtain ⟨v4, w4, rfl, ⟨to, rfl, _, _⟩, k4⟩ := fk_cons k3
  obtain ⟨v5, w5, rfl, ⟨s, rfl, hs⟩, k5⟩ := fk_cons k4
  obtain ⟨v6, w6, rfl, ⟨n, rfl, _, _⟩, k6⟩ := fk_cons k5
  obtain rfl := fk_nil k6
  refine ⟨⟨k, m, fr, to, s, n⟩, toV_ag h _, ?_, ?_, ?_⟩
  · have := max_len; show (s.size : Int) ≤ _; omega
  · exact hm0
  · have : IntKind.u64.max = 18446744073709551615 := rfl
    show m < _; omega
theorem ctx_of {P : Program} {t : Nat} (h : ∃ fs, P.underlying t = some (.struct fs)) (hf : flat P 3 t = some [.int .i64, .int .i64, .int .i64, .str]) {cs : List Value} (hp : PTy P t cs) : ∃ q : Ctx, toV P t cs = q.v ∧ q.wf := by
  obtain ⟨fs, h⟩ := h
  obtain ⟨v7, w7, rfl, ⟨z, rfl, _, _⟩, k1⟩ := fk_cons (flat_ok 3 t _ cs hf hp)
  obtain ⟨v8, w8, rfl, ⟨l, rfl, hm0, hm1⟩, k2⟩ := fk_cons k1
  obtain ⟨v9, w9, rfl, ⟨m, rfl, _, _⟩, k3⟩ := fk_cons k2
  obtain ⟨v10, w10, rfl, ⟨s, rfl, hs⟩, k4⟩ := fk_cons k3
  obtain rfl := fk_nil k4
  refine ⟨⟨z, l, m, s⟩, toV_ag h _, ?_⟩
  have := max_len; show (s.size : Int) ≤ _; omega
theorem pargs_nil {P : Program} {ps : List Value} (h : Pargs P [] ps) : ps = [] := by
  cases ps with
  | nil => rfl
  | cons => cases h
theorem pargs_cons {P : Program} {t : Nat} {ts : List TypeId} {ps : List Value} (h : Pargs P (t :: ts) ps) : ∃ cs qs, ps = toV P t cs :: qs ∧ PTy P t cs ∧ Pargs P ts qs := by
  cases ps with
  | nil => cases h
  | cons p ps =>
    obtain ⟨⟨cs, h1, h2⟩, h3⟩ := h
    exact ⟨cs, ps, by rw [h2], h1, h3⟩
end Go.PE
namespace Go.PE
open Go
/-- macaroon/macaroonlaw28.counts: 30 slots, results [(.t 2)] -/
def law28_counts_BC (f_law28_tags : Nat) (f_ref26_AddRides : Nat) (f_made_Deck_Next : Nat) : PC :=
  (.seq (.reg [((some 2), (none, .cns))])
  (.seq (.reg [((some 6), (none, (.mv (.tmp 0)))),
    ((some 7), (none, (.callB f_law28_tags [(.tmp 6), (.const (.int .i64 9))]))),
    ((some 8), (none, (.callB f_ref26_AddRides [(.const (.slice none 0 0)), (.tmp 7)]))),
    ((some 5), (none, (.steal 8))),
    ((some 9), (none, (.extr 5 0))),
    ((some 10), (none, (.extr 5 1))),
    ((some 3), (none, (.steal 9))),
    ((some 4), (none, (.mv (.tmp 10))))])
  (.seq (.seq (.reg [((some 11), (none, (.mv (.tmp 3)))),
    ((some 12), (none, (.lenB (.tmp 11)))),
    ((some 13), (none, (.bi .gtr (.tmp 12) (.const (.int .i64 0))))),
    ((some 14), (none, (.mv (.tmp 13)))),
    ((some 15), ((some (14, true)), (.mv (.tmp 0)))),
    ((some 16), ((some (14, true)), (.callB f_made_Deck_Next [(.tmp 15), (.const (.int .i64 4))]))),
    ((some 17), ((some (14, true)), (.bi .eql (.tmp 16) (.const (.int .i64 0))))),
    ((some 18), (none, (.pick (.tmp 14) (.tmp 17) (.const (.bool false)))))])
  (.cond (.tmp 18)
    (.reg [((some 19), (none, (.mv (.tmp 3)))),
      ((some 20), (none, (.mv (.tmp 0)))),
      ((some 21), (none, (.mv (.tmp 3)))),
      ((some 22), (none, (.lenB (.tmp 21)))),
      ((some 23), (none, (.callB f_made_Deck_Next [(.tmp 20), (.tmp 22)]))),
      ((some 24), (none, (.mv (.tmp 0)))),
      ((some 25), (none, (.callB f_made_Deck_Next [(.tmp 24), (.const (.int .i64 2))]))),
      ((some 26), (none, (.bi .sub (.const (.int .i64 281474976710656)) (.tmp 25)))),
      ((some 27), (none, (.ixB 33 (.tmp 19) (.tmp 23)))),
      ((some 28), (none, (.fa 32 (.tmp 27)))),
      (none, (none, (.st 1 (.tmp 28) (.tmp 26))))])
    .skip))
  (.seq (.reg [((some 29), (none, (.steal 3))),
    ((some 2), (none, (.steal 29)))])
  .ret))))
/-- macaroon/macaroonlaw28.tags: 23 slots, results [(.t 4)] -/
def law28_tagsC_j1 (t_api_Tag : Nat) (f_made_Deck_Next : Nat) : PC :=
  (.seq (.block 1 (.reg [((some 15), (none, (.steal 5))),
       ((some 16), (none, (.mv (.tmp 0)))),
       ((some 17), (none, (.call f_made_Deck_Next [(.tmp 16), (.const (.int .i64 5))]))),
       ((some 18), (none, (.cv .u8 (.tmp 17)))),
       ((some 19), (none, (.build [(.inr ((.tmp 18), 1)), (.inl [(.int .u8 0)]), (.inl [(.int .u8 0)]), (.inl [(.int .u8 0)]), (.inl [(.int .u8 0)]), (.inl [(.int .u8 0)]), (.inl [(.int .u8 0)]), (.inl [(.int .u8 0)]), (.inl [(.int .u8 0)]), (.inl [(.int .u8 0)]), (.inl [(.int .u8 0)]), (.inl [(.int .u8 0)]), (.inl [(.int .u8 0)]), (.inl [(.int .u8 0)]), (.inl [(.int .u8 0)]), (.inl [(.int .u8 0)]), (.inl [(.int .u8 0)]), (.inl [(.int .u8 0)]), (.inl [(.int .u8 0)]), (.inl [(.int .u8 0)]), (.inl [(.int .u8 0)]), (.inl [(.int .u8 0)]), (.inl [(.int .u8 0)]), (.inl [(.int .u8 0)]), (.inl [(.int .u8 0)]), (.inl [(.int .u8 0)]), (.inl [(.int .u8 0)]), (.inl [(.int .u8 0)]), (.inl [(.int .u8 0)]), (.inl [(.int .u8 0)]), (.inl [(.int .u8 0)]), (.inl [(.int .u8 0)])]))),
       ((some 20), (none, (.mks t_api_Tag 32 false [(.tmp 19)]))),
       ((some 21), (none, (.app t_api_Tag 32 32 15 (.tmp 20)))),
       ((some 5), (none, (.steal 21)))]))
  (.reg [((some 13), (none, (.mv (.tmp 6)))),
      ((some 14), (none, (.bi .sub (.tmp 13) (.const (.int .i64 1))))),
      ((some 6), (none, (.mv (.tmp 14))))]))
def law28_tagsC (t_api_Tag : Nat) (f_made_Deck_Next : Nat) : PC :=
  (.seq (.reg [((some 4), (none, (.cnil t_api_Tag)))])
  (.seq (.reg [((some 5), (none, (.cnil t_api_Tag)))])
  (.seq (.seq (.reg [((some 7), (none, (.mv (.tmp 0)))),
    ((some 8), (none, (.mv (.tmp 1)))),
    ((some 9), (none, (.bi .add (.tmp 8) (.const (.int .i64 1))))),
    ((some 10), (none, (.call f_made_Deck_Next [(.tmp 7), (.tmp 9)]))),
    ((some 6), (none, (.mv (.tmp 10))))])
  (.block 0 (.loop (.seq (.seq (.reg [((some 11), (none, (.mv (.tmp 6)))),
      ((some 12), (none, (.bi .gtr (.tmp 11) (.const (.int .i64 0)))))])
  (.cond (.tmp 12)
      .skip
      (.exit 0)))
  (law28_tagsC_j1 t_api_Tag f_made_Deck_Next)))))
  (.seq (.reg [((some 22), (none, (.steal 5))),
    ((some 4), (none, (.steal 22)))])
  .ret))))
/-- macaroon/ledger.Add: 60 slots, results [(.t 4), (.t 5)] -/
def ledger_Add_BC_j1 : PC :=
  (.seq (.reg [((some 44), (none, (.mv (.tmp 6)))),
       ((some 45), (none, (.mv (.tmp 8)))),
       ((some 46), (none, (.ixB 33 (.tmp 44) (.tmp 45)))),
       ((some 47), (none, (.fa 32 (.tmp 46)))),
       ((some 48), (none, (.ld false (.tmp 47)))),
       ((some 49), (none, (.bi .add (.tmp 48) (.const (.int .i64 1))))),
       ((some 50), (none, (.ixB 33 (.tmp 44) (.tmp 45)))),
       ((some 51), (none, (.fa 32 (.tmp 50)))),
       (none, (none, (.st 1 (.tmp 51) (.tmp 49))))])
  (.seq (.reg [((some 52), (none, (.mv (.tmp 6)))),
       ((some 53), (none, (.mv (.tmp 8)))),
       ((some 54), (none, (.ixB 33 (.tmp 52) (.tmp 53)))),
       ((some 55), (none, (.fa 32 (.tmp 54)))),
       ((some 56), (none, (.ld false (.tmp 55)))),
       ((some 57), (none, (.bi .gtr (.tmp 56) (.const (.int .i64 281474976710656)))))])
  (.cond (.tmp 57)
       (.seq (.reg [((some 4), (none, .cns)),
         ((some 5), (none, (.mv (.const (.int .i64 1)))))])
  .ret)
       .skip)))
def ledger_Add_BC_j2 (f_ledger_index : Nat) (t_api_Count : Nat) : PC :=
  (.seq (.block 1 (.seq (.reg [((some 27), (none, (.mv (.tmp 25)))),
       ((some 7), (none, (.mv (.tmp 27))))])
  (.seq (.reg [((some 28), (none, (.mv (.tmp 6)))),
       ((some 29), (none, (.mv (.tmp 1)))),
       ((some 30), (none, (.mv (.tmp 7)))),
       ((some 31), (none, (.ixS 32 (.tmp 29) (.tmp 30)))),
       ((some 32), (none, (.ldA 32 (.tmp 31)))),
       ((some 33), (none, (.callB f_ledger_index [(.tmp 28), (.tmp 32)]))),
       ((some 8), (none, (.mv (.tmp 33))))])
  (.seq (.seq (.reg [((some 34), (none, (.mv (.tmp 8)))),
       ((some 35), (none, (.bi .lss (.tmp 34) (.const (.int .i64 0)))))])
  (.cond (.tmp 35)
       (.seq (.reg [((some 36), (none, (.steal 6))),
         ((some 37), (none, (.mv (.tmp 1)))),
         ((some 38), (none, (.mv (.tmp 7)))),
         ((some 39), (none, (.ixS 32 (.tmp 37) (.tmp 38)))),
         ((some 40), (none, (.ldA 32 (.tmp 39)))),
         ((some 41), (none, (.build [(.inr ((.tmp 40), 32)), (.inr ((.const (.int .i64 1)), 1))]))),
         ((some 42), (none, (.mks t_api_Count 33 false [(.tmp 41)]))),
         ((some 43), (none, (.appB 33 40 [(.int .u8 0), (.int .u8 0), (.int .u8 0), (.int .u8 0), (.int .u8 0), (.int .u8 0), (.int .u8 0), (.int .u8 0), (.int .u8 0), (.int .u8 0), (.int .u8 0), (.int .u8 0), (.int .u8 0), (.int .u8 0), (.int .u8 0), (.int .u8 0), (.int .u8 0), (.int .u8 0), (.int .u8 0), (.int .u8 0), (.int .u8 0), (.int .u8 0), (.int .u8 0), (.int .u8 0), (.int .u8 0), (.int .u8 0), (.int .u8 0), (.int .u8 0), (.int .u8 0), (.int .u8 0), (.int .u8 0), (.int .u8 0), (.int .i64 0)] 36 (.tmp 42)))),
         ((some 6), (none, (.steal 43)))])
  (.exit 1))
       .skip))
  ledger_Add_BC_j1))))
  (.reg [((some 58), (none, (.bi .add (.tmp 25) (.const (.int .i64 1))))),
      ((some 25), (none, (.mv (.tmp 58))))]))
def ledger_Add_BC_j3 (f_ledger_index : Nat) (t_api_Count : Nat) : PC :=
  (.seq (.reg [((some 12), (none, (.mv (.tmp 0)))),
    ((some 13), (none, (.lenB (.tmp 12)))),
    ((some 14), (none, (.mv (.tmp 0)))),
    ((some 15), (none, (.lenB (.tmp 14)))),
    ((some 16), (none, (.mv (.tmp 1)))),
    ((some 17), (none, (.len (.tmp 16)))),
    ((some 18), (none, (.bi .add (.tmp 15) (.tmp 17)))),
    ((some 19), (none, (.mkB 33 40 [(.int .u8 0), (.int .u8 0), (.int .u8 0), (.int .u8 0), (.int .u8 0), (.int .u8 0), (.int .u8 0), (.int .u8 0), (.int .u8 0), (.int .u8 0), (.int .u8 0), (.int .u8 0), (.int .u8 0), (.int .u8 0), (.int .u8 0), (.int .u8 0), (.int .u8 0), (.int .u8 0), (.int .u8 0), (.int .u8 0), (.int .u8 0), (.int .u8 0), (.int .u8 0), (.int .u8 0), (.int .u8 0), (.int .u8 0), (.int .u8 0), (.int .u8 0), (.int .u8 0), (.int .u8 0), (.int .u8 0), (.int .u8 0), (.int .i64 0)] (.tmp 13) (.tmp 18)))),
    ((some 6), (none, (.steal 19)))])
  (.seq (.reg [((some 20), (none, (.mv (.tmp 6)))),
    ((some 21), (none, (.mv (.tmp 0)))),
    ((some 22), (none, (.cpy 33 (.tmp 20) (.tmp 21))))])
  (.seq (.seq (.reg [((some 23), (none, (.mv (.tmp 1)))),
    ((some 24), (none, (.len (.tmp 23)))),
    ((some 25), (none, (.mv (.const (.int .i64 0)))))])
  (.block 0 (.loop (.seq (.reg [((some 26), (none, (.bi .lss (.tmp 25) (.tmp 24))))])
  (.seq (.cond (.tmp 26)
      .skip
      (.exit 0))
  (ledger_Add_BC_j2 f_ledger_index t_api_Count))))))
  (.seq (.reg [((some 59), (none, (.steal 6))),
    ((some 4), (none, (.steal 59))),
    ((some 5), (none, (.mv (.const (.int .i64 0)))))])
  .ret))))
def ledger_Add_BC (f_ledger_Valid : Nat) (f_ledger_index : Nat) (t_api_Count : Nat) : PC :=
  (.seq (.reg [((some 4), (none, .cns)),
    ((some 5), (none, (.mv (.const (.int .i64 0)))))])
  (.seq (.seq (.reg [((some 9), (none, (.mv (.tmp 0)))),
    ((some 10), (none, (.callB f_ledger_Valid [(.tmp 9)]))),
    ((some 11), (none, (.un .not (.tmp 10))))])
  (.cond (.tmp 11)
    (.seq (.reg [((some 4), (none, .cns)),
      ((some 5), (none, (.mv (.const (.int .i64 5)))))])
  .ret)
    .skip))
  (ledger_Add_BC_j3 f_ledger_index t_api_Count)))
/-- macaroon/macaroonref26.AddRides: 74 slots, results [(.t 4), (.t 5)] -/
def ref26_AddRides_BC_j1 : PC :=
  (.seq (.block 3 (.seq (.drw [((some 33), (none, (.mv (.tmp 6)))),
          ((some 34), (none, (.mv (.tmp 9)))),
          ((some 35), (none, (.ixB 33 (.tmp 33) (.tmp 34)))),
          ((some 36), (none, (.fa 0 (.tmp 35)))),
          ((some 37), (none, (.ldA 32 (.tmp 36)))),
          ((some 38), (none, (.mv (.tmp 1)))),
          ((some 39), (none, (.mv (.tmp 7)))),
          ((some 40), (none, (.ixS 32 (.tmp 38) (.tmp 39)))),
          ((some 41), (none, (.ldA 32 (.tmp 40)))),
          ((some 42), (none, (.eqA false (List.replicate 32 (.int .u8)) (.tmp 37) (.tmp 41))))])
  (.cond (.tmp 42)
          (.seq (.reg [((some 43), (none, (.mv (.tmp 6)))),
            ((some 44), (none, (.mv (.tmp 9)))),
            ((some 45), (none, (.ixB 33 (.tmp 43) (.tmp 44)))),
            ((some 46), (none, (.fa 32 (.tmp 45)))),
            ((some 47), (none, (.ld false (.tmp 46)))),
            ((some 48), (none, (.bi .add (.tmp 47) (.const (.int .i64 1))))),
            ((some 49), (none, (.ixB 33 (.tmp 43) (.tmp 44)))),
            ((some 50), (none, (.fa 32 (.tmp 49)))),
            (none, (none, (.st 1 (.tmp 50) (.tmp 48))))])
  (.reg [((some 8), (none, (.mv (.const (.bool true)))))]))
          .skip)))
  (.reg [((some 31), (none, (.mv (.tmp 9)))),
         ((some 32), (none, (.bi .add (.tmp 31) (.const (.int .i64 1))))),
         ((some 9), (none, (.mv (.tmp 32))))]))
def ref26_AddRides_BC_j2 (t_api_Count : Nat) : PC :=
  (.seq (.reg [((some 51), (none, (.mv (.tmp 8)))),
       ((some 52), (none, (.un .not (.tmp 51))))])
  (.cond (.tmp 52)
       (.reg [((some 53), (none, (.steal 6))),
         ((some 54), (none, (.mv (.tmp 1)))),
         ((some 55), (none, (.mv (.tmp 7)))),
         ((some 56), (none, (.ixS 32 (.tmp 54) (.tmp 55)))),
         ((some 57), (none, (.ldA 32 (.tmp 56)))),
         ((some 58), (none, (.build [(.inr ((.tmp 57), 32)), (.inr ((.const (.int .i64 1)), 1))]))),
         ((some 59), (none, (.mks t_api_Count 33 false [(.tmp 58)]))),
         ((some 60), (none, (.appB 33 40 [(.int .u8 0), (.int .u8 0), (.int .u8 0), (.int .u8 0), (.int .u8 0), (.int .u8 0), (.int .u8 0), (.int .u8 0), (.int .u8 0), (.int .u8 0), (.int .u8 0), (.int .u8 0), (.int .u8 0), (.int .u8 0), (.int .u8 0), (.int .u8 0), (.int .u8 0), (.int .u8 0), (.int .u8 0), (.int .u8 0), (.int .u8 0), (.int .u8 0), (.int .u8 0), (.int .u8 0), (.int .u8 0), (.int .u8 0), (.int .u8 0), (.int .u8 0), (.int .u8 0), (.int .u8 0), (.int .u8 0), (.int .u8 0), (.int .i64 0)] 53 (.tmp 59)))),
         ((some 6), (none, (.steal 60)))])
       .skip))
def ref26_AddRides_BC_j3 (t_api_Count : Nat) : PC :=
  (.seq (.block 1 (.seq (.reg [((some 8), (none, (.mv (.const (.bool false)))))])
  (.seq (.seq (.reg [((some 9), (none, (.mv (.const (.int .i64 0)))))])
  (.block 2 (.loop (.seq (.seq (.reg [((some 23), (none, (.mv (.tmp 9)))),
         ((some 24), (none, (.mv (.tmp 6)))),
         ((some 25), (none, (.lenB (.tmp 24)))),
         ((some 26), (none, (.bi .lss (.tmp 23) (.tmp 25)))),
         ((some 27), (none, (.mv (.tmp 26)))),
         ((some 28), ((some (27, true)), (.mv (.tmp 8)))),
         ((some 29), ((some (27, true)), (.un .not (.tmp 28)))),
         ((some 30), (none, (.pick (.tmp 27) (.tmp 29) (.const (.bool false)))))])
  (.cond (.tmp 30)
         .skip
         (.exit 2)))
  ref26_AddRides_BC_j1))))
  (ref26_AddRides_BC_j2 t_api_Count))))
  (.reg [((some 21), (none, (.mv (.tmp 7)))),
      ((some 22), (none, (.bi .add (.tmp 21) (.const (.int .i64 1))))),
      ((some 7), (none, (.mv (.tmp 22))))]))
def ref26_AddRides_BC_j4 : PC :=
  (.seq (.block 5 (.seq (.reg [((some 67), (none, (.mv (.tmp 6)))),
       ((some 68), (none, (.mv (.tmp 10)))),
       ((some 69), (none, (.ixB 33 (.tmp 67) (.tmp 68)))),
       ((some 70), (none, (.fa 32 (.tmp 69)))),
       ((some 71), (none, (.ld false (.tmp 70)))),
       ((some 72), (none, (.bi .gtr (.tmp 71) (.const (.int .i64 281474976710656)))))])
  (.cond (.tmp 72)
       (.seq (.reg [((some 4), (none, .cns)),
         ((some 5), (none, (.mv (.const (.int .i64 1)))))])
  .ret)
       .skip)))
  (.reg [((some 65), (none, (.mv (.tmp 10)))),
      ((some 66), (none, (.bi .add (.tmp 65) (.const (.int .i64 1))))),
      ((some 10), (none, (.mv (.tmp 66))))]))
def ref26_AddRides_BC_j5 : PC :=
  (.seq (.seq (.reg [((some 10), (none, (.mv (.const (.int .i64 0)))))])
  (.block 4 (.loop (.seq (.seq (.reg [((some 61), (none, (.mv (.tmp 10)))),
      ((some 62), (none, (.mv (.tmp 6)))),
      ((some 63), (none, (.lenB (.tmp 62)))),
      ((some 64), (none, (.bi .lss (.tmp 61) (.tmp 63))))])
  (.cond (.tmp 64)
      .skip
      (.exit 4)))
  ref26_AddRides_BC_j4))))
  (.seq (.reg [((some 73), (none, (.steal 6))),
    ((some 4), (none, (.steal 73))),
    ((some 5), (none, (.mv (.const (.int .i64 0)))))])
  .ret))
def ref26_AddRides_BC_j6 (t_api_Count : Nat) : PC :=
  (.seq (.reg [((some 14), (none, .mks0)),
    ((some 15), (none, (.mv (.tmp 0)))),
    ((some 16), (none, (.appB 33 40 [(.int .u8 0), (.int .u8 0), (.int .u8 0), (.int .u8 0), (.int .u8 0), (.int .u8 0), (.int .u8 0), (.int .u8 0), (.int .u8 0), (.int .u8 0), (.int .u8 0), (.int .u8 0), (.int .u8 0), (.int .u8 0), (.int .u8 0), (.int .u8 0), (.int .u8 0), (.int .u8 0), (.int .u8 0), (.int .u8 0), (.int .u8 0), (.int .u8 0), (.int .u8 0), (.int .u8 0), (.int .u8 0), (.int .u8 0), (.int .u8 0), (.int .u8 0), (.int .u8 0), (.int .u8 0), (.int .u8 0), (.int .u8 0), (.int .i64 0)] 14 (.tmp 15)))),
    ((some 6), (none, (.steal 16)))])
  (.seq (.seq (.reg [((some 7), (none, (.mv (.const (.int .i64 0)))))])
  (.block 0 (.loop (.seq (.seq (.reg [((some 17), (none, (.mv (.tmp 7)))),
      ((some 18), (none, (.mv (.tmp 1)))),
      ((some 19), (none, (.len (.tmp 18)))),
      ((some 20), (none, (.bi .lss (.tmp 17) (.tmp 19))))])
  (.cond (.tmp 20)
      .skip
      (.exit 0)))
  (ref26_AddRides_BC_j3 t_api_Count)))))
  ref26_AddRides_BC_j5))
def ref26_AddRides_BC (f_ref26_CountsOk : Nat) (t_api_Count : Nat) : PC :=
  (.seq (.reg [((some 4), (none, .cns)),
    ((some 5), (none, (.mv (.const (.int .i64 0)))))])
  (.seq (.seq (.reg [((some 11), (none, (.mv (.tmp 0)))),
    ((some 12), (none, (.callB f_ref26_CountsOk [(.tmp 11)]))),
    ((some 13), (none, (.un .not (.tmp 12))))])
  (.cond (.tmp 13)
    (.seq (.reg [((some 4), (none, .cns)),
      ((some 5), (none, (.mv (.const (.int .i64 5)))))])
  .ret)
    .skip))
  (ref26_AddRides_BC_j6 t_api_Count)))
/-- macaroon/macaroonref26.SameCounts: 26 slots, results [(.t 4)] -/
def ref26_SameCountsC_j1 : PC :=
  (.seq (.block 1 (.seq (.drw [((some 17), (none, (.mv (.tmp 0)))),
       ((some 18), (none, (.mv (.tmp 5)))),
       ((some 19), (none, (.ixS 33 (.tmp 17) (.tmp 18)))),
       ((some 20), (none, (.ldA 33 (.tmp 19)))),
       ((some 21), (none, (.mv (.tmp 1)))),
       ((some 22), (none, (.mv (.tmp 5)))),
       ((some 23), (none, (.ixS 33 (.tmp 21) (.tmp 22)))),
       ((some 24), (none, (.ldA 33 (.tmp 23)))),
       ((some 25), (none, (.eqA true [(.int .u8), (.int .u8), (.int .u8), (.int .u8), (.int .u8), (.int .u8), (.int .u8), (.int .u8), (.int .u8), (.int .u8), (.int .u8), (.int .u8), (.int .u8), (.int .u8), (.int .u8), (.int .u8), (.int .u8), (.int .u8), (.int .u8), (.int .u8), (.int .u8), (.int .u8), (.int .u8), (.int .u8), (.int .u8), (.int .u8), (.int .u8), (.int .u8), (.int .u8), (.int .u8), (.int .u8), (.int .u8), (.int .i64)] (.tmp 20) (.tmp 24))))])
  (.cond (.tmp 25)
       (.seq (.reg [((some 4), (none, (.mv (.const (.bool false)))))])
  .ret)
       .skip)))
  (.reg [((some 15), (none, (.mv (.tmp 5)))),
      ((some 16), (none, (.bi .add (.tmp 15) (.const (.int .i64 1))))),
      ((some 5), (none, (.mv (.tmp 16))))]))
def ref26_SameCountsC_j2 : PC :=
  (.seq (.seq (.reg [((some 5), (none, (.mv (.const (.int .i64 0)))))])
  (.block 0 (.loop (.seq (.seq (.reg [((some 11), (none, (.mv (.tmp 5)))),
      ((some 12), (none, (.mv (.tmp 0)))),
      ((some 13), (none, (.len (.tmp 12)))),
      ((some 14), (none, (.bi .lss (.tmp 11) (.tmp 13))))])
  (.cond (.tmp 14)
      .skip
      (.exit 0)))
  ref26_SameCountsC_j1))))
  (.seq (.reg [((some 4), (none, (.mv (.const (.bool true)))))])
  .ret))
def ref26_SameCountsC : PC :=
  (.seq (.reg [((some 4), (none, (.mv (.const (.bool false)))))])
  (.seq (.seq (.reg [((some 6), (none, (.mv (.tmp 0)))),
    ((some 7), (none, (.len (.tmp 6)))),
    ((some 8), (none, (.mv (.tmp 1)))),
    ((some 9), (none, (.len (.tmp 8)))),
    ((some 10), (none, (.bi .neq (.tmp 7) (.tmp 9))))])
  (.cond (.tmp 10)
    (.seq (.reg [((some 4), (none, (.mv (.const (.bool false)))))])
  .ret)
    .skip))
  ref26_SameCountsC_j2))
/-- macaroon/ledger.Valid: 35 slots, results [(.t 2)] -/
def ledger_ValidC_j1 (f_ledger_index : Nat) : PC :=
  (.seq (.block 1 (.seq (.reg [((some 8), (none, (.mv (.tmp 6)))),
       ((some 3), (none, (.mv (.tmp 8))))])
  (.seq (.reg [((some 9), (none, (.mv (.tmp 0)))),
       ((some 10), (none, (.mv (.tmp 3)))),
       ((some 11), (none, (.ixS 33 (.tmp 9) (.tmp 10)))),
       ((some 12), (none, (.fa 32 (.tmp 11)))),
       ((some 13), (none, (.ld false (.tmp 12)))),
       ((some 14), (none, (.bi .lss (.tmp 13) (.const (.int .i64 1))))),
       ((some 15), (none, (.mv (.tmp 14)))),
       ((some 16), ((some (15, false)), (.mv (.tmp 0)))),
       ((some 17), ((some (15, false)), (.mv (.tmp 3)))),
       ((some 18), ((some (15, false)), (.ixS 33 (.tmp 16) (.tmp 17)))),
       ((some 19), ((some (15, false)), (.fa 32 (.tmp 18)))),
       ((some 20), ((some (15, false)), (.ld false (.tmp 19)))),
       ((some 21), ((some (15, false)), (.bi .gtr (.tmp 20) (.const (.int .i64 281474976710656))))),
       ((some 22), (none, (.pick (.tmp 15) (.const (.bool true)) (.tmp 21)))),
       ((some 23), (none, (.mv (.tmp 22)))),
       ((some 24), ((some (23, false)), (.mv (.tmp 0)))),
       ((some 25), ((some (23, false)), (.mv (.tmp 0)))),
       ((some 26), ((some (23, false)), (.mv (.tmp 3)))),
       ((some 27), ((some (23, false)), (.ixS 33 (.tmp 25) (.tmp 26)))),
       ((some 28), ((some (23, false)), (.fa 0 (.tmp 27)))),
       ((some 29), ((some (23, false)), (.ldA 32 (.tmp 28)))),
       ((some 30), ((some (23, false)), (.call f_ledger_index [(.tmp 24), (.tmp 29)]))),
       ((some 31), ((some (23, false)), (.mv (.tmp 3)))),
       ((some 32), ((some (23, false)), (.bi .lss (.tmp 30) (.tmp 31)))),
       ((some 33), (none, (.pick (.tmp 23) (.const (.bool true)) (.tmp 32))))])
  (.cond (.tmp 33)
       (.seq (.reg [((some 2), (none, (.mv (.const (.bool false)))))])
  .ret)
       .skip))))
  (.reg [((some 34), (none, (.bi .add (.tmp 6) (.const (.int .i64 1))))),
      ((some 6), (none, (.mv (.tmp 34))))]))
def ledger_ValidC (f_ledger_index : Nat) : PC :=
  (.seq (.reg [((some 2), (none, (.mv (.const (.bool false)))))])
  (.seq (.seq (.reg [((some 4), (none, (.mv (.tmp 0)))),
    ((some 5), (none, (.len (.tmp 4)))),
    ((some 6), (none, (.mv (.const (.int .i64 0)))))])
  (.block 0 (.loop (.seq (.reg [((some 7), (none, (.bi .lss (.tmp 6) (.tmp 5))))])
  (.seq (.cond (.tmp 7)
      .skip
      (.exit 0))
  (ledger_ValidC_j1 f_ledger_index))))))
  (.seq (.reg [((some 2), (none, (.mv (.const (.bool true)))))])
  .ret)))
/-- macaroon/macaroonref26.CountsOk: 41 slots, results [(.t 2)] -/
def ref26_CountsOkC_j1 : PC :=
  (.seq (.block 3 (.seq (.drw [((some 30), (none, (.mv (.tmp 0)))),
          ((some 31), (none, (.mv (.tmp 4)))),
          ((some 32), (none, (.ixS 33 (.tmp 30) (.tmp 31)))),
          ((some 33), (none, (.fa 0 (.tmp 32)))),
          ((some 34), (none, (.ldA 32 (.tmp 33)))),
          ((some 35), (none, (.mv (.tmp 0)))),
          ((some 36), (none, (.mv (.tmp 3)))),
          ((some 37), (none, (.ixS 33 (.tmp 35) (.tmp 36)))),
          ((some 38), (none, (.fa 0 (.tmp 37)))),
          ((some 39), (none, (.ldA 32 (.tmp 38)))),
          ((some 40), (none, (.eqA false (List.replicate 32 (.int .u8)) (.tmp 34) (.tmp 39))))])
  (.cond (.tmp 40)
          (.seq (.reg [((some 2), (none, (.mv (.const (.bool false)))))])
  .ret)
          .skip)))
  (.reg [((some 28), (none, (.mv (.tmp 4)))),
         ((some 29), (none, (.bi .add (.tmp 28) (.const (.int .i64 1))))),
         ((some 4), (none, (.mv (.tmp 29))))]))
def ref26_CountsOkC_j2 : PC :=
  (.seq (.reg [((some 4), (none, (.mv (.const (.int .i64 0)))))])
  (.block 2 (.loop (.seq (.seq (.reg [((some 25), (none, (.mv (.tmp 4)))),
         ((some 26), (none, (.mv (.tmp 3)))),
         ((some 27), (none, (.bi .lss (.tmp 25) (.tmp 26))))])
  (.cond (.tmp 27)
         .skip
         (.exit 2)))
  ref26_CountsOkC_j1))))
def ref26_CountsOkC_j3 : PC :=
  (.seq (.block 1 (.seq (.seq (.reg [((some 11), (none, (.mv (.tmp 0)))),
       ((some 12), (none, (.mv (.tmp 3)))),
       ((some 13), (none, (.ixS 33 (.tmp 11) (.tmp 12)))),
       ((some 14), (none, (.fa 32 (.tmp 13)))),
       ((some 15), (none, (.ld false (.tmp 14)))),
       ((some 16), (none, (.bi .lss (.tmp 15) (.const (.int .i64 1))))),
       ((some 17), (none, (.mv (.tmp 16)))),
       ((some 18), ((some (17, false)), (.mv (.tmp 0)))),
       ((some 19), ((some (17, false)), (.mv (.tmp 3)))),
       ((some 20), ((some (17, false)), (.ixS 33 (.tmp 18) (.tmp 19)))),
       ((some 21), ((some (17, false)), (.fa 32 (.tmp 20)))),
       ((some 22), ((some (17, false)), (.ld false (.tmp 21)))),
       ((some 23), ((some (17, false)), (.bi .gtr (.tmp 22) (.const (.int .i64 281474976710656))))),
       ((some 24), (none, (.pick (.tmp 17) (.const (.bool true)) (.tmp 23))))])
  (.cond (.tmp 24)
       (.seq (.reg [((some 2), (none, (.mv (.const (.bool false)))))])
  .ret)
       .skip))
  ref26_CountsOkC_j2))
  (.reg [((some 9), (none, (.mv (.tmp 3)))),
      ((some 10), (none, (.bi .add (.tmp 9) (.const (.int .i64 1))))),
      ((some 3), (none, (.mv (.tmp 10))))]))
def ref26_CountsOkC : PC :=
  (.seq (.reg [((some 2), (none, (.mv (.const (.bool false)))))])
  (.seq (.seq (.reg [((some 3), (none, (.mv (.const (.int .i64 0)))))])
  (.block 0 (.loop (.seq (.seq (.reg [((some 5), (none, (.mv (.tmp 3)))),
      ((some 6), (none, (.mv (.tmp 0)))),
      ((some 7), (none, (.len (.tmp 6)))),
      ((some 8), (none, (.bi .lss (.tmp 5) (.tmp 7))))])
  (.cond (.tmp 8)
      .skip
      (.exit 0)))
  ref26_CountsOkC_j3))))
  (.seq (.reg [((some 2), (none, (.mv (.const (.bool true)))))])
  .ret)))
/-- macaroon/ledger.Number: 16 slots, results [(.t 4)] -/
def ledger_NumberC (f_ledger_index : Nat) : PC :=
  (.seq (.reg [((some 3), (none, (.box 32 (.tmp 1)))),
    ((some 4), (none, (.mv (.const (.int .i64 0)))))])
  (.seq (.reg [((some 6), (none, (.mv (.tmp 0)))),
    ((some 7), (none, (.ldA 32 (.tmp 3)))),
    ((some 8), (none, (.call f_ledger_index [(.tmp 6), (.tmp 7)]))),
    ((some 5), (none, (.mv (.tmp 8))))])
  (.seq (.seq (.reg [((some 9), (none, (.mv (.tmp 5)))),
    ((some 10), (none, (.bi .lss (.tmp 9) (.const (.int .i64 0)))))])
  (.cond (.tmp 10)
    (.seq (.reg [((some 4), (none, (.mv (.const (.int .i64 0)))))])
  .ret)
    .skip))
  (.seq (.reg [((some 11), (none, (.mv (.tmp 0)))),
    ((some 12), (none, (.mv (.tmp 5)))),
    ((some 13), (none, (.ixS 33 (.tmp 11) (.tmp 12)))),
    ((some 14), (none, (.fa 32 (.tmp 13)))),
    ((some 15), (none, (.ld false (.tmp 14)))),
    ((some 4), (none, (.mv (.tmp 15))))])
  .ret))))
/-- macaroon/macaroonref26.Number: 24 slots, results [(.t 4)] -/
def ref26_NumberC_j1 : PC :=
  (.seq (.block 1 (.seq (.drw [((some 12), (none, (.mv (.tmp 0)))),
       ((some 13), (none, (.mv (.tmp 5)))),
       ((some 14), (none, (.ixS 33 (.tmp 12) (.tmp 13)))),
       ((some 15), (none, (.fa 0 (.tmp 14)))),
       ((some 16), (none, (.ldA 32 (.tmp 15)))),
       ((some 17), (none, (.ldA 32 (.tmp 3)))),
       ((some 18), (none, (.eqA false (List.replicate 32 (.int .u8)) (.tmp 16) (.tmp 17))))])
  (.cond (.tmp 18)
       (.seq (.reg [((some 19), (none, (.mv (.tmp 0)))),
         ((some 20), (none, (.mv (.tmp 5)))),
         ((some 21), (none, (.ixS 33 (.tmp 19) (.tmp 20)))),
         ((some 22), (none, (.fa 32 (.tmp 21)))),
         ((some 23), (none, (.ld false (.tmp 22)))),
         ((some 4), (none, (.mv (.tmp 23))))])
  .ret)
       .skip)))
  (.reg [((some 10), (none, (.mv (.tmp 5)))),
      ((some 11), (none, (.bi .add (.tmp 10) (.const (.int .i64 1))))),
      ((some 5), (none, (.mv (.tmp 11))))]))
def ref26_NumberC : PC :=
  (.seq (.reg [((some 3), (none, (.box 32 (.tmp 1)))),
    ((some 4), (none, (.mv (.const (.int .i64 0)))))])
  (.seq (.seq (.reg [((some 5), (none, (.mv (.const (.int .i64 0)))))])
  (.block 0 (.loop (.seq (.seq (.reg [((some 6), (none, (.mv (.tmp 5)))),
      ((some 7), (none, (.mv (.tmp 0)))),
      ((some 8), (none, (.len (.tmp 7)))),
      ((some 9), (none, (.bi .lss (.tmp 6) (.tmp 8))))])
  (.cond (.tmp 9)
      .skip
      (.exit 0)))
  ref26_NumberC_j1))))
  (.seq (.reg [((some 4), (none, (.mv (.const (.int .i64 0)))))])
  .ret)))
/-- (*macaroon/macaroonmade.Deck).Caveat: 20 slots, results [(.cA 2 10)] -/
def made_Deck_CaveatC_j1 (t_uint8 : Nat) (f_made_Deck_Next : Nat) (f_made_Deck_Bytes : Nat) : PC :=
  (.seq (.reg [((some 9), (none, (.mv (.tmp 0)))),
    ((some 10), (none, (.call f_made_Deck_Next [(.tmp 9), (.const (.int .i64 8))]))),
    ((some 11), (none, (.mv (.tmp 0)))),
    ((some 12), (none, (.call f_made_Deck_Bytes [(.tmp 11), (.const (.int .i64 20))]))),
    ((some 13), (none, (.mks t_uint8 1 false [(.const (.int .u8 1))]))),
    ((some 14), (none, (.app t_uint8 1 1 12 (.tmp 13)))),
    ((some 15), (none, (.mv (.tmp 0)))),
    ((some 16), (none, (.call f_made_Deck_Bytes [(.tmp 15), (.const (.int .i64 20))]))),
    ((some 17), (none, (.mks t_uint8 1 false [(.const (.int .u8 2))]))),
    ((some 18), (none, (.app t_uint8 1 1 16 (.tmp 17)))),
    ((some 19), (none, (.build [(.inr ((.const (.bool true)), 1)), (.inl [(.int .i64 0), (.int .u64 0), (.int .i64 0), (.int .i64 0), (.string ⟨#[]⟩), (.int .i64 0)]), (.inr ((.tmp 10), 1)), (.inr ((.tmp 14), 1)), (.inr ((.tmp 18), 1))]))),
    (none, (none, (.st 10 (.tmp 2) (.tmp 19))))])
  .ret)
def made_Deck_CaveatC (t_uint8 : Nat) (f_made_Deck_Next : Nat) (f_made_Deck_Predicate : Nat) (f_made_Deck_Bytes : Nat) : PC :=
  (.seq (.reg [((some 2), (none, (.alloc [(.bool false), (.int .i64 0), (.int .u64 0), (.int .i64 0), (.int .i64 0), (.string ⟨#[]⟩), (.int .i64 0), (.int .i64 0), (lin t_uint8 []), (lin t_uint8 [])])))])
  (.seq (.seq (.reg [((some 3), (none, (.mv (.tmp 0)))),
    ((some 4), (none, (.call f_made_Deck_Next [(.tmp 3), (.const (.int .i64 4))]))),
    ((some 5), (none, (.bi .gtr (.tmp 4) (.const (.int .i64 0)))))])
  (.cond (.tmp 5)
    (.seq (.reg [((some 6), (none, (.mv (.tmp 0)))),
      ((some 7), (none, (.call f_made_Deck_Predicate [(.tmp 6), (.const (.bool true))]))),
      ((some 8), (none, (.build [(.inl [(.bool false)]), (.inr ((.tmp 7), 6)), (.inl [(.int .i64 0)]), (.inl [(deep [])]), (.inl [(deep [])])]))),
      (none, (none, (.st 10 (.tmp 2) (.tmp 8))))])
  .ret)
    .skip))
  (made_Deck_CaveatC_j1 t_uint8 f_made_Deck_Next f_made_Deck_Bytes)))
/-- macaroon/macaroonref01.SameTags: 26 slots, results [(.t 4)] -/
def ref01_SameTagsC_j1 : PC :=
  (.seq (.block 1 (.seq (.drw [((some 17), (none, (.mv (.tmp 0)))),
       ((some 18), (none, (.mv (.tmp 5)))),
       ((some 19), (none, (.ixS 32 (.tmp 17) (.tmp 18)))),
       ((some 20), (none, (.ldA 32 (.tmp 19)))),
       ((some 21), (none, (.mv (.tmp 1)))),
       ((some 22), (none, (.mv (.tmp 5)))),
       ((some 23), (none, (.ixS 32 (.tmp 21) (.tmp 22)))),
       ((some 24), (none, (.ldA 32 (.tmp 23)))),
       ((some 25), (none, (.eqA true (List.replicate 32 (.int .u8)) (.tmp 20) (.tmp 24))))])
  (.cond (.tmp 25)
       (.seq (.reg [((some 4), (none, (.mv (.const (.bool false)))))])
  .ret)
       .skip)))
  (.reg [((some 15), (none, (.mv (.tmp 5)))),
      ((some 16), (none, (.bi .add (.tmp 15) (.const (.int .i64 1))))),
      ((some 5), (none, (.mv (.tmp 16))))]))
def ref01_SameTagsC_j2 : PC :=
  (.seq (.seq (.reg [((some 5), (none, (.mv (.const (.int .i64 0)))))])
  (.block 0 (.loop (.seq (.seq (.reg [((some 11), (none, (.mv (.tmp 5)))),
      ((some 12), (none, (.mv (.tmp 0)))),
      ((some 13), (none, (.len (.tmp 12)))),
      ((some 14), (none, (.bi .lss (.tmp 11) (.tmp 13))))])
  (.cond (.tmp 14)
      .skip
      (.exit 0)))
  ref01_SameTagsC_j1))))
  (.seq (.reg [((some 4), (none, (.mv (.const (.bool true)))))])
  .ret))
def ref01_SameTagsC : PC :=
  (.seq (.reg [((some 4), (none, (.mv (.const (.bool false)))))])
  (.seq (.seq (.reg [((some 6), (none, (.mv (.tmp 0)))),
    ((some 7), (none, (.len (.tmp 6)))),
    ((some 8), (none, (.mv (.tmp 1)))),
    ((some 9), (none, (.len (.tmp 8)))),
    ((some 10), (none, (.bi .neq (.tmp 7) (.tmp 9))))])
  (.cond (.tmp 10)
    (.seq (.reg [((some 4), (none, (.mv (.const (.bool false)))))])
  .ret)
    .skip))
  ref01_SameTagsC_j2))
/-- macaroon/ledger.Limited: 28 slots, results [(.t 4)] -/
def ledger_LimitedC_j1 (t_api_Tag : Nat) : PC :=
  (.seq (.block 1 (.seq (.reg [((some 13), (none, (.ixS 1 (.tmp 9) (.tmp 11)))),
       ((some 14), (none, (.ld false (.tmp 13)))),
       ((some 7), (none, (.mv (.tmp 14))))])
  (.seq (.reg [((some 15), (none, (.mv (.tmp 7)))),
       ((some 16), (none, (.mv (.tmp 1)))),
       ((some 17), (none, (.len (.tmp 16)))),
       ((some 18), (none, (.bi .lss (.tmp 15) (.tmp 17))))])
  (.cond (.tmp 18)
       (.reg [((some 19), (none, (.steal 5))),
         ((some 20), (none, (.mv (.tmp 1)))),
         ((some 21), (none, (.mv (.tmp 7)))),
         ((some 22), (none, (.ixS 32 (.tmp 20) (.tmp 21)))),
         ((some 23), (none, (.ldA 32 (.tmp 22)))),
         ((some 24), (none, (.mks t_api_Tag 32 false [(.tmp 23)]))),
         ((some 25), (none, (.app t_api_Tag 32 32 19 (.tmp 24)))),
         ((some 5), (none, (.steal 25)))])
       .skip))))
  (.reg [((some 26), (none, (.bi .add (.tmp 11) (.const (.int .i64 1))))),
      ((some 11), (none, (.mv (.tmp 26))))]))
def ledger_LimitedC (t_api_Tag : Nat) (f_verify_Limits : Nat) : PC :=
  (.seq (.reg [((some 2), (none, (.box 38 (.tmp 0)))),
    ((some 4), (none, (.cnil t_api_Tag)))])
  (.seq (.reg [((some 5), (none, (.cnil t_api_Tag)))])
  (.seq (.seq (.reg [((some 8), (none, (.ldA 38 (.tmp 2)))),
    ((some 9), (none, (.call f_verify_Limits [(.tmp 8)]))),
    ((some 10), (none, (.len (.tmp 9)))),
    ((some 11), (none, (.mv (.const (.int .i64 0)))))])
  (.block 0 (.loop (.seq (.reg [((some 12), (none, (.bi .lss (.tmp 11) (.tmp 10))))])
  (.seq (.cond (.tmp 12)
      .skip
      (.exit 0))
  (ledger_LimitedC_j1 t_api_Tag))))))
  (.seq (.reg [((some 27), (none, (.steal 5))),
    ((some 4), (none, (.steal 27)))])
  .ret))))
/-- macaroon/macaroonref26.Limited: 34 slots, results [(.t 4)] -/
def ref26_LimitedC_j1 (t_api_Tag : Nat) : PC :=
  (.seq (.block 1 (.seq (.reg [((some 16), (none, (.mv (.tmp 6)))),
       ((some 17), (none, (.mv (.tmp 7)))),
       ((some 18), (none, (.ixS 1 (.tmp 16) (.tmp 17)))),
       ((some 19), (none, (.ld false (.tmp 18)))),
       ((some 20), (none, (.mv (.tmp 1)))),
       ((some 21), (none, (.len (.tmp 20)))),
       ((some 22), (none, (.bi .lss (.tmp 19) (.tmp 21))))])
  (.cond (.tmp 22)
       (.reg [((some 23), (none, (.steal 5))),
         ((some 24), (none, (.mv (.tmp 1)))),
         ((some 25), (none, (.mv (.tmp 6)))),
         ((some 26), (none, (.mv (.tmp 7)))),
         ((some 27), (none, (.ixS 1 (.tmp 25) (.tmp 26)))),
         ((some 28), (none, (.ld false (.tmp 27)))),
         ((some 29), (none, (.ixS 32 (.tmp 24) (.tmp 28)))),
         ((some 30), (none, (.ldA 32 (.tmp 29)))),
         ((some 31), (none, (.mks t_api_Tag 32 false [(.tmp 30)]))),
         ((some 32), (none, (.app t_api_Tag 32 32 23 (.tmp 31)))),
         ((some 5), (none, (.steal 32)))])
       .skip)))
  (.reg [((some 14), (none, (.mv (.tmp 7)))),
      ((some 15), (none, (.bi .add (.tmp 14) (.const (.int .i64 1))))),
      ((some 7), (none, (.mv (.tmp 15))))]))
def ref26_LimitedC (t_api_Tag : Nat) (f_ref16_Limits : Nat) : PC :=
  (.seq (.reg [((some 2), (none, (.box 38 (.tmp 0)))),
    ((some 4), (none, (.cnil t_api_Tag)))])
  (.seq (.reg [((some 5), (none, (.cnil t_api_Tag)))])
  (.seq (.reg [((some 8), (none, (.ldA 38 (.tmp 2)))),
    ((some 9), (none, (.call f_ref16_Limits [(.tmp 8)]))),
    ((some 6), (none, (.steal 9)))])
  (.seq (.seq (.reg [((some 7), (none, (.mv (.const (.int .i64 0)))))])
  (.block 0 (.loop (.seq (.seq (.reg [((some 10), (none, (.mv (.tmp 7)))),
      ((some 11), (none, (.mv (.tmp 6)))),
      ((some 12), (none, (.len (.tmp 11)))),
      ((some 13), (none, (.bi .lss (.tmp 10) (.tmp 12))))])
  (.cond (.tmp 13)
      .skip
      (.exit 0)))
  (ref26_LimitedC_j1 t_api_Tag)))))
  (.seq (.reg [((some 33), (none, (.steal 5))),
    ((some 4), (none, (.steal 33)))])
  .ret)))))
/-- macaroon/ledger.Room: 38 slots, results [(.t 6)] -/
def ledger_RoomC_j1 (f_ledger_Number : Nat) : PC :=
  (.seq (.block 1 (.seq (.reg [((some 14), (none, (.ixS 1 (.tmp 10) (.tmp 12)))),
       ((some 15), (none, (.ld false (.tmp 14)))),
       ((some 8), (none, (.mv (.tmp 15))))])
  (.seq (.drw [((some 16), (none, (.mv (.tmp 8)))),
       ((some 17), (none, (.mv (.tmp 2)))),
       ((some 18), (none, (.len (.tmp 17)))),
       ((some 19), (none, (.bi .lss (.tmp 16) (.tmp 18)))),
       ((some 20), (none, (.mv (.tmp 19)))),
       ((some 21), ((some (20, true)), (.mv (.tmp 0)))),
       ((some 22), ((some (20, true)), (.mv (.tmp 2)))),
       ((some 23), ((some (20, true)), (.mv (.tmp 8)))),
       ((some 24), ((some (20, true)), (.ixS 32 (.tmp 22) (.tmp 23)))),
       ((some 25), ((some (20, true)), (.ldA 32 (.tmp 24)))),
       ((some 26), ((some (20, true)), (.call f_ledger_Number [(.tmp 21), (.tmp 25)]))),
       ((some 27), ((some (20, true)), (.fa 4 (.tmp 4)))),
       ((some 28), ((some (20, true)), (.ld false (.tmp 27)))),
       ((some 29), ((some (20, true)), (.mv (.tmp 8)))),
       ((some 30), ((some (20, true)), (.bi .sub (.tmp 29) (.const (.int .i64 1))))),
       ((some 31), ((some (20, true)), (.ixS 10 (.tmp 28) (.tmp 30)))),
       ((some 32), ((some (20, true)), (.fa 1 (.tmp 31)))),
       ((some 33), ((some (20, true)), (.fa 5 (.tmp 32)))),
       ((some 34), ((some (20, true)), (.ld false (.tmp 33)))),
       ((some 35), ((some (20, true)), (.bi .geq (.tmp 26) (.tmp 34)))),
       ((some 36), (none, (.pick (.tmp 20) (.tmp 35) (.const (.bool false)))))])
  (.cond (.tmp 36)
       (.seq (.reg [((some 6), (none, (.mv (.const (.int .i64 24)))))])
  .ret)
       .skip))))
  (.reg [((some 37), (none, (.bi .add (.tmp 12) (.const (.int .i64 1))))),
      ((some 12), (none, (.mv (.tmp 37))))]))
def ledger_RoomC (f_verify_Limits : Nat) (f_ledger_Number : Nat) : PC :=
  (.seq (.reg [((some 4), (none, (.box 38 (.tmp 1)))),
    ((some 6), (none, (.mv (.const (.int .i64 0)))))])
  (.seq (.seq (.reg [((some 9), (none, (.ldA 38 (.tmp 4)))),
    ((some 10), (none, (.call f_verify_Limits [(.tmp 9)]))),
    ((some 11), (none, (.len (.tmp 10)))),
    ((some 12), (none, (.mv (.const (.int .i64 0)))))])
  (.block 0 (.loop (.seq (.reg [((some 13), (none, (.bi .lss (.tmp 12) (.tmp 11))))])
  (.seq (.cond (.tmp 13)
      .skip
      (.exit 0))
  (ledger_RoomC_j1 f_ledger_Number))))))
  (.seq (.reg [((some 6), (none, (.mv (.const (.int .i64 0)))))])
  .ret)))
/-- macaroon/macaroonref26.Room: 47 slots, results [(.t 6)] -/
def ref26_RoomC_j1 (f_ref26_Number : Nat) : PC :=
  (.seq (.block 1 (.seq (.drw [((some 17), (none, (.mv (.tmp 7)))),
       ((some 18), (none, (.mv (.tmp 8)))),
       ((some 19), (none, (.ixS 1 (.tmp 17) (.tmp 18)))),
       ((some 20), (none, (.ld false (.tmp 19)))),
       ((some 21), (none, (.mv (.tmp 2)))),
       ((some 22), (none, (.len (.tmp 21)))),
       ((some 23), (none, (.bi .lss (.tmp 20) (.tmp 22)))),
       ((some 24), (none, (.mv (.tmp 23)))),
       ((some 25), ((some (24, true)), (.mv (.tmp 0)))),
       ((some 26), ((some (24, true)), (.mv (.tmp 2)))),
       ((some 27), ((some (24, true)), (.mv (.tmp 7)))),
       ((some 28), ((some (24, true)), (.mv (.tmp 8)))),
       ((some 29), ((some (24, true)), (.ixS 1 (.tmp 27) (.tmp 28)))),
       ((some 30), ((some (24, true)), (.ld false (.tmp 29)))),
       ((some 31), ((some (24, true)), (.ixS 32 (.tmp 26) (.tmp 30)))),
       ((some 32), ((some (24, true)), (.ldA 32 (.tmp 31)))),
       ((some 33), ((some (24, true)), (.call f_ref26_Number [(.tmp 25), (.tmp 32)]))),
       ((some 34), ((some (24, true)), (.fa 4 (.tmp 4)))),
       ((some 35), ((some (24, true)), (.ld false (.tmp 34)))),
       ((some 36), ((some (24, true)), (.mv (.tmp 7)))),
       ((some 37), ((some (24, true)), (.mv (.tmp 8)))),
       ((some 38), ((some (24, true)), (.ixS 1 (.tmp 36) (.tmp 37)))),
       ((some 39), ((some (24, true)), (.ld false (.tmp 38)))),
       ((some 40), ((some (24, true)), (.bi .sub (.tmp 39) (.const (.int .i64 1))))),
       ((some 41), ((some (24, true)), (.ixS 10 (.tmp 35) (.tmp 40)))),
       ((some 42), ((some (24, true)), (.fa 1 (.tmp 41)))),
       ((some 43), ((some (24, true)), (.fa 5 (.tmp 42)))),
       ((some 44), ((some (24, true)), (.ld false (.tmp 43)))),
       ((some 45), ((some (24, true)), (.bi .geq (.tmp 33) (.tmp 44)))),
       ((some 46), (none, (.pick (.tmp 24) (.tmp 45) (.const (.bool false)))))])
  (.cond (.tmp 46)
       (.seq (.reg [((some 6), (none, (.mv (.const (.int .i64 24)))))])
  .ret)
       .skip)))
  (.reg [((some 15), (none, (.mv (.tmp 8)))),
      ((some 16), (none, (.bi .add (.tmp 15) (.const (.int .i64 1))))),
      ((some 8), (none, (.mv (.tmp 16))))]))
def ref26_RoomC (f_ref16_Limits : Nat) (f_ref26_Number : Nat) : PC :=
  (.seq (.reg [((some 4), (none, (.box 38 (.tmp 1)))),
    ((some 6), (none, (.mv (.const (.int .i64 0)))))])
  (.seq (.reg [((some 9), (none, (.ldA 38 (.tmp 4)))),
    ((some 10), (none, (.call f_ref16_Limits [(.tmp 9)]))),
    ((some 7), (none, (.steal 10)))])
  (.seq (.seq (.reg [((some 8), (none, (.mv (.const (.int .i64 0)))))])
  (.block 0 (.loop (.seq (.seq (.reg [((some 11), (none, (.mv (.tmp 8)))),
      ((some 12), (none, (.mv (.tmp 7)))),
      ((some 13), (none, (.len (.tmp 12)))),
      ((some 14), (none, (.bi .lss (.tmp 11) (.tmp 13))))])
  (.cond (.tmp 14)
      .skip
      (.exit 0)))
  (ref26_RoomC_j1 f_ref26_Number)))))
  (.seq (.reg [((some 6), (none, (.mv (.const (.int .i64 0)))))])
  .ret))))
/-- macaroon/ledger.index: 20 slots, results [(.t 4)] -/
def ledger_indexC_j1 : PC :=
  (.seq (.block 1 (.seq (.reg [((some 10), (none, (.mv (.tmp 8)))),
       ((some 5), (none, (.mv (.tmp 10))))])
  (.seq (.drw [((some 11), (none, (.mv (.tmp 0)))),
       ((some 12), (none, (.mv (.tmp 5)))),
       ((some 13), (none, (.ixS 33 (.tmp 11) (.tmp 12)))),
       ((some 14), (none, (.fa 0 (.tmp 13)))),
       ((some 15), (none, (.ldA 32 (.tmp 14)))),
       ((some 16), (none, (.ldA 32 (.tmp 3)))),
       ((some 17), (none, (.eqA false (List.replicate 32 (.int .u8)) (.tmp 15) (.tmp 16))))])
  (.cond (.tmp 17)
       (.seq (.reg [((some 18), (none, (.mv (.tmp 5)))),
         ((some 4), (none, (.mv (.tmp 18))))])
  .ret)
       .skip))))
  (.reg [((some 19), (none, (.bi .add (.tmp 8) (.const (.int .i64 1))))),
      ((some 8), (none, (.mv (.tmp 19))))]))
def ledger_indexC : PC :=
  (.seq (.reg [((some 3), (none, (.box 32 (.tmp 1)))),
    ((some 4), (none, (.mv (.const (.int .i64 0)))))])
  (.seq (.seq (.reg [((some 6), (none, (.mv (.tmp 0)))),
    ((some 7), (none, (.len (.tmp 6)))),
    ((some 8), (none, (.mv (.const (.int .i64 0)))))])
  (.block 0 (.loop (.seq (.reg [((some 9), (none, (.bi .lss (.tmp 8) (.tmp 7))))])
  (.seq (.cond (.tmp 9)
      .skip
      (.exit 0))
  ledger_indexC_j1)))))
  (.seq (.reg [((some 4), (none, (.mv (.const (.int .i64 (-1))))))])
  .ret)))
/-- (*macaroon/macaroonmade.Deck).Bytes: 22 slots, results [(.t 4)] -/
def made_Deck_BytesC_j1 (t_uint8 : Nat) (f_made_Deck_Next : Nat) : PC :=
  (.seq (.block 1 (.reg [((some 15), (none, (.steal 5))),
       ((some 16), (none, (.mv (.tmp 0)))),
       ((some 17), (none, (.call f_made_Deck_Next [(.tmp 16), (.const (.int .i64 256))]))),
       ((some 18), (none, (.cv .u8 (.tmp 17)))),
       ((some 19), (none, (.mks t_uint8 1 false [(.tmp 18)]))),
       ((some 20), (none, (.app t_uint8 1 1 15 (.tmp 19)))),
       ((some 5), (none, (.steal 20)))]))
  (.reg [((some 13), (none, (.mv (.tmp 6)))),
      ((some 14), (none, (.bi .sub (.tmp 13) (.const (.int .i64 1))))),
      ((some 6), (none, (.mv (.tmp 14))))]))
def made_Deck_BytesC (t_uint8 : Nat) (f_made_Deck_Next : Nat) : PC :=
  (.seq (.reg [((some 4), (none, (.cnil t_uint8)))])
  (.seq (.reg [((some 5), (none, (.cnil t_uint8)))])
  (.seq (.seq (.reg [((some 7), (none, (.mv (.tmp 0)))),
    ((some 8), (none, (.mv (.tmp 1)))),
    ((some 9), (none, (.bi .add (.tmp 8) (.const (.int .i64 1))))),
    ((some 10), (none, (.call f_made_Deck_Next [(.tmp 7), (.tmp 9)]))),
    ((some 6), (none, (.mv (.tmp 10))))])
  (.block 0 (.loop (.seq (.seq (.reg [((some 11), (none, (.mv (.tmp 6)))),
      ((some 12), (none, (.bi .gtr (.tmp 11) (.const (.int .i64 0)))))])
  (.cond (.tmp 12)
      .skip
      (.exit 0)))
  (made_Deck_BytesC_j1 t_uint8 f_made_Deck_Next)))))
  (.seq (.reg [((some 21), (none, (.steal 5))),
    ((some 4), (none, (.steal 21)))])
  .ret))))
/-- macaroon/verify.Limits: 30 slots, results [(.t 2)] -/
def verify_LimitsC_j1 (t_int : Nat) (t_uint8 : Nat) : PC :=
  (.seq (.block 1 (.seq (.reg [((some 11), (none, (.mv (.tmp 9)))),
       ((some 12), (none, (.ixS 10 (.tmp 7) (.tmp 9)))),
       ((some 13), (none, (.ldA 10 (.tmp 12)))),
       ((some 5), (none, (.alloc [(.bool false), (.int .i64 0), (.int .u64 0), (.int .i64 0), (.int .i64 0), (.string ⟨#[]⟩), (.int .i64 0), (.int .i64 0), (lin t_uint8 []), (lin t_uint8 [])]))),
       ((some 4), (none, (.mv (.tmp 11)))),
       (none, (none, (.st 10 (.tmp 5) (.tmp 13))))])
  (.seq (.reg [((some 14), (none, (.fa 0 (.tmp 5)))),
       ((some 15), (none, (.ld false (.tmp 14)))),
       ((some 16), (none, (.un .not (.tmp 15)))),
       ((some 17), (none, (.mv (.tmp 16)))),
       ((some 18), ((some (17, true)), (.fa 1 (.tmp 5)))),
       ((some 19), ((some (17, true)), (.fa 0 (.tmp 18)))),
       ((some 20), ((some (17, true)), (.ld false (.tmp 19)))),
       ((some 21), ((some (17, true)), (.bi .eql (.tmp 20) (.const (.int .i64 7))))),
       ((some 22), (none, (.pick (.tmp 17) (.tmp 21) (.const (.bool false)))))])
  (.cond (.tmp 22)
       (.reg [((some 23), (none, (.steal 3))),
         ((some 24), (none, (.mv (.tmp 4)))),
         ((some 25), (none, (.bi .add (.tmp 24) (.const (.int .i64 1))))),
         ((some 26), (none, (.mks t_int 1 false [(.tmp 25)]))),
         ((some 27), (none, (.app t_int 1 8 23 (.tmp 26)))),
         ((some 3), (none, (.steal 27)))])
       .skip))))
  (.reg [((some 28), (none, (.bi .add (.tmp 9) (.const (.int .i64 1))))),
      ((some 9), (none, (.mv (.tmp 28))))]))
def verify_LimitsC (t_int : Nat) (t_uint8 : Nat) : PC :=
  (.seq (.reg [((some 1), (none, (.box 38 (.tmp 0)))),
    ((some 2), (none, (.cnil t_int)))])
  (.seq (.reg [((some 3), (none, (.cnil t_int)))])
  (.seq (.seq (.reg [((some 6), (none, (.fa 4 (.tmp 1)))),
    ((some 7), (none, (.ld false (.tmp 6)))),
    ((some 8), (none, (.len (.tmp 7)))),
    ((some 9), (none, (.mv (.const (.int .i64 0)))))])
  (.block 0 (.loop (.seq (.reg [((some 10), (none, (.bi .lss (.tmp 9) (.tmp 8))))])
  (.seq (.cond (.tmp 10)
      .skip
      (.exit 0))
  (verify_LimitsC_j1 t_int t_uint8))))))
  (.seq (.reg [((some 29), (none, (.steal 3))),
    ((some 2), (none, (.steal 29)))])
  .ret))))
/-- macaroon/macaroonref16.Limits: 35 slots, results [(.t 2)] -/
def ref16_LimitsC_j1 (t_int : Nat) : PC :=
  (.seq (.block 1 (.seq (.reg [((some 12), (none, (.fa 4 (.tmp 1)))),
       ((some 13), (none, (.ld false (.tmp 12)))),
       ((some 14), (none, (.mv (.tmp 4)))),
       ((some 15), (none, (.ixS 10 (.tmp 13) (.tmp 14)))),
       ((some 16), (none, (.fa 0 (.tmp 15)))),
       ((some 17), (none, (.ld false (.tmp 16)))),
       ((some 18), (none, (.un .not (.tmp 17)))),
       ((some 19), (none, (.mv (.tmp 18)))),
       ((some 20), ((some (19, true)), (.fa 4 (.tmp 1)))),
       ((some 21), ((some (19, true)), (.ld false (.tmp 20)))),
       ((some 22), ((some (19, true)), (.mv (.tmp 4)))),
       ((some 23), ((some (19, true)), (.ixS 10 (.tmp 21) (.tmp 22)))),
       ((some 24), ((some (19, true)), (.fa 1 (.tmp 23)))),
       ((some 25), ((some (19, true)), (.fa 0 (.tmp 24)))),
       ((some 26), ((some (19, true)), (.ld false (.tmp 25)))),
       ((some 27), ((some (19, true)), (.bi .eql (.tmp 26) (.const (.int .i64 7))))),
       ((some 28), (none, (.pick (.tmp 19) (.tmp 27) (.const (.bool false)))))])
  (.cond (.tmp 28)
       (.reg [((some 29), (none, (.steal 3))),
         ((some 30), (none, (.mv (.tmp 4)))),
         ((some 31), (none, (.bi .add (.tmp 30) (.const (.int .i64 1))))),
         ((some 32), (none, (.mks t_int 1 false [(.tmp 31)]))),
         ((some 33), (none, (.app t_int 1 8 29 (.tmp 32)))),
         ((some 3), (none, (.steal 33)))])
       .skip)))
  (.reg [((some 10), (none, (.mv (.tmp 4)))),
      ((some 11), (none, (.bi .add (.tmp 10) (.const (.int .i64 1))))),
      ((some 4), (none, (.mv (.tmp 11))))]))
def ref16_LimitsC (t_int : Nat) : PC :=
  (.seq (.reg [((some 1), (none, (.box 38 (.tmp 0)))),
    ((some 2), (none, (.cnil t_int)))])
  (.seq (.reg [((some 3), (none, (.cnil t_int)))])
  (.seq (.seq (.reg [((some 4), (none, (.mv (.const (.int .i64 0)))))])
  (.block 0 (.loop (.seq (.seq (.reg [((some 5), (none, (.mv (.tmp 4)))),
      ((some 6), (none, (.fa 4 (.tmp 1)))),
      ((some 7), (none, (.ld false (.tmp 6)))),
      ((some 8), (none, (.len (.tmp 7)))),
      ((some 9), (none, (.bi .lss (.tmp 5) (.tmp 8))))])
  (.cond (.tmp 9)
      .skip
      (.exit 0)))
  (ref16_LimitsC_j1 t_int)))))
  (.seq (.reg [((some 34), (none, (.steal 3))),
    ((some 2), (none, (.steal 34)))])
  .ret))))
end Go.PE
namespace Go.PE
open Go
structure Tag where
  b : List Int
  hb : b.length = 32
/-- all zero -/
def zTag : Tag := ⟨List.replicate 32 0, by simp⟩
theorem Tag.ext' {s t : Tag} (h : s.b = t.b) : s = t := by cases s; cases t; simp_all
instance tagDec : DecidableEq Tag := fun s t => if h : s.b = t.b then isTrue (Tag.ext' h) else isFalse fun e => h (by rw [e])
def Tag.cells (t : Tag) : List Value := t.b.map (.int .u8)
def Tag.v (t : Tag) : Value := ag t.cells
structure Cnt where
  tag : Tag
  n : Int
def Cnt.cells (c : Cnt) : List Value := c.tag.cells ++ [.int .i64 c.n]
def Cnt.v (c : Cnt) : Value := ag c.cells
@[simp] theorem Tag.len (t : Tag) : t.cells.length = 32 := by simp [Tag.cells, t.hb]
@[simp] theorem Cnt.len (c : Cnt) : c.cells.length = 33 := by simp [Cnt.cells]
theorem dg1_ints (k : IntKind) (l : List Int) : (l.map (Value.int k)).map dg1 = l.map (Value.int k) := by simp [Function.comp_def]
@[simp] theorem Tag.dg1s (t : Tag) : t.cells.map dg1 = t.cells := dg1_ints _ _
@[simp] theorem Cnt.dg1s (c : Cnt) : c.cells.map dg1 = c.cells := by simp [Cnt.cells]
@[simp] theorem Tag.take32 (t : Tag) : t.cells.take 32 = t.cells := List.take_of_length_le (by simp)
@[simp] theorem Cnt.take33 (c : Cnt) : c.cells.take 33 = c.cells := List.take_of_length_le (by simp)
@[simp] theorem Cnt.take32 (c : Cnt) : c.cells.take 32 = c.tag.cells := by
  unfold Cnt.cells
  rw [List.take_append_of_le_length (by simp)]; simp
@[simp] theorem Cnt.get32 (c : Cnt) : c.cells[32]? = some (.int .i64 c.n) := by
  unfold Cnt.cells
  rw [List.getElem?_append_right (by simp)]; simp
@[simp] theorem Cnt.getE32 (c : Cnt) (h : 32 < c.cells.length) : c.cells[32] = .int .i64 c.n := by
  have := c.get32
  rw [List.getElem?_eq_getElem h] at this
  exact Option.some.inj this
@[simp] theorem Tag.dgv (t : Tag) : dg t.v = t.v := _root_.id rfl
@[simp] theorem Tag.cellsOf (t : Tag) : PE.cellsOf t.v = some t.cells := _root_.id rfl
@[simp] theorem Tag.lcv (t : Tag) : lc t.v = t.cells := _root_.id rfl
@[simp] theorem Cnt.dgv (t : Cnt) : dg t.v = t.v := _root_.id rfl
@[simp] theorem Cnt.cellsOf (t : Cnt) : PE.cellsOf t.v = some t.cells := _root_.id rfl
@[simp] theorem Cnt.lcv (t : Cnt) : lc t.v = t.cells := _root_.id rfl
theorem Tag.cells_inj {s t : Tag} (h : s.cells = t.cells) : s = t := by
  apply Tag.ext'
  have : Function.Injective (Value.int IntKind.u8) := fun a b h => by simpa using h
  exact (List.map_inj_right (fun a b h => this h)).1 h
theorem fits_ints (k : IntKind) : ∀ l : List Int, fitsL (List.replicate l.length (.int k)) (l.map (Value.int k)) = true
  | [] => rfl
  | x :: l => by simp [List.replicate_succ, fits_ints k l]
theorem eq_ints (k : IntKind) : ∀ l m : List Int, l.length = m.length → eqL (l.map (Value.int k)) (m.map (Value.int k)) = decide (l = m)
  | [], [], _ => rfl
  | x :: l, y :: m, h => by
    have := eq_ints k l m (by simpa using h)
    simp [this]
    rw [Bool.eq_iff_iff]; simp
@[simp] theorem Tag.fits (t : Tag) : fitsL (List.replicate 32 (.int .u8)) t.cells = true := by
  have := fits_ints .u8 t.b
  rw [t.hb] at this; exact this
@[simp] theorem Tag.eq (s t : Tag) : eqL s.cells t.cells = decide (s = t) := by
  unfold Tag.cells
  rw [eq_ints _ _ _ (by rw [s.hb, t.hb])]
  rw [Bool.eq_iff_iff]
  simp only [decide_eq_true_eq]
  exact ⟨Tag.ext', fun h => by rw [h]⟩
instance cntDec : DecidableEq Cnt := fun s t => if h : s.tag = t.tag ∧ s.n = t.n then isTrue (by cases s; cases t; simp_all) else isFalse fun e => h (by rw [e]; exact ⟨rfl, rfl⟩)
theorem fitsL_app : ∀ {ks ms : List CK} {a b : List Value}, fitsL ks a = true → fitsL ms b = true → fitsL (ks ++ ms) (a ++ b) = true
  | [], ms, [], b, _, h => h
  | [], ms, x :: a, b, h, _ => by simp [fitsL] at h
  | k :: ks, ms, [], b, h, _ => by simp [fitsL] at h
  | k :: ks, ms, x :: a, b, h, h' => by
    simp only [fitsL_cons, Bool.and_eq_true, List.cons_append] at h ⊢
    exact ⟨h.1, fitsL_app h.2 h'⟩
@[simp] theorem Cnt.fits (c : Cnt) : fitsL [(.int .u8), (.int .u8), (.int .u8), (.int .u8), (.int .u8), (.int .u8), (.int .u8), (.int .u8), (.int .u8), (.int .u8), (.int .u8), (.int .u8), (.int .u8), (.int .u8), (.int .u8), (.int .u8), (.int .u8), (.int .u8), (.int .u8), (.int .u8), (.int .u8), (.int .u8), (.int .u8), (.int .u8), (.int .u8), (.int .u8), (.int .u8), (.int .u8), (.int .u8), (.int .u8), (.int .u8), (.int .u8), (.int .i64)] c.cells = true := by
  have h := fits_ints .u8 c.tag.b
  rw [c.tag.hb] at h
  have := fitsL_app (ks := List.replicate 32 (.int .u8)) (ms := [.int .i64]) h (show fitsL [.int .i64] [.int .i64 c.n] = true by simp)
  exact this
@[simp] theorem Cnt.eq (s t : Cnt) : eqL s.cells t.cells = decide (s = t) := by
  unfold Cnt.cells
  rw [eqL_append _ _ _ _ (by simp), Tag.eq]
  rw [Bool.eq_iff_iff]
  simp only [Bool.and_eq_true, decide_eq_true_eq, eqL_cons, eqC_int, eqL_nil, and_true, beq_iff_eq]
  exact ⟨fun ⟨h1, h2⟩ => by cases s; cases t; simp_all, fun h => by rw [h]; exact ⟨rfl, rfl⟩⟩
theorem elem_cnt {l : List Cnt} {n : Int} (h0 : 0 ≤ n) (hn : n.toNat < l.length) : elemAt (l.map Cnt.v) n 33 = some (dptr 0 l[n.toNat].cells) := elemAt_map h0 hn rfl (by simp)
theorem elem_tag {l : List Tag} {n : Int} (h0 : 0 ≤ n) (hn : n.toNat < l.length) : elemAt (l.map Tag.v) n 32 = some (dptr 0 l[n.toNat].cells) := elemAt_map h0 hn rfl (by simp)
end Go.PE
namespace Go.PE
open Go
structure Cav where
  third : Bool
  p : Pred
  party : Int
  tk : List Int
  bx : List Int
def bytesV (l : List Int) : Value := deep (l.map (.int .u8))
def Cav.cells (c : Cav) : List Value := .bool c.third :: c.p.cells ++ [.int .i64 c.party, bytesV c.tk, bytesV c.bx]
def Cav.v (c : Cav) : Value := ag c.cells
@[simp] theorem dg1_bytesV (l : List Int) : dg1 (bytesV l) = bytesV l := _root_.id rfl
@[simp] theorem dg_bytesV (l : List Int) : dg (bytesV l) = bytesV l := _root_.id rfl
@[simp] theorem Cav.len (c : Cav) : c.cells.length = 10 := by simp [Cav.cells, Pred.cells]
@[simp] theorem Cav.dg1s (c : Cav) : c.cells.map dg1 = c.cells := by simp [Cav.cells, Pred.cells]
@[simp] theorem Cav.dgv (c : Cav) : dg c.v = c.v := _root_.id rfl
@[simp] theorem Cav.cellsOf (c : Cav) : PE.cellsOf c.v = some c.cells := _root_.id rfl
@[simp] theorem Cav.lcv (c : Cav) : lc c.v = c.cells := _root_.id rfl
@[simp] theorem Cav.take10 (c : Cav) : c.cells.take 10 = c.cells := List.take_of_length_le (by simp)
@[simp] theorem Cav.get0 (c : Cav) : c.cells[0]? = some (.bool c.third) := _root_.id rfl
@[simp] theorem Cav.get1 (c : Cav) : c.cells[1]? = some (.int .i64 c.p.kind) := _root_.id rfl
@[simp] theorem Cav.get6 (c : Cav) : c.cells[6]? = some (.int .i64 c.p.num) := _root_.id rfl
theorem getE_of {l : List Value} {i : Nat} {v : Value} (h : l[i]? = some v) (hi : i < l.length) : l[i] = v := by
  rw [List.getElem?_eq_getElem hi] at h; exact Option.some.inj h
@[simp] theorem Cav.getE0 (c : Cav) (h : 0 < c.cells.length) : c.cells[0] = .bool c.third := _root_.id rfl
@[simp] theorem Cav.getE1 (c : Cav) (h : 1 < c.cells.length) : c.cells[1] = .int .i64 c.p.kind := _root_.id rfl
@[simp] theorem Cav.getE6 (c : Cav) (h : 6 < c.cells.length) : c.cells[6] = .int .i64 c.p.num := _root_.id rfl
structure Bun where
  g : Int
  n : Int
  e : Int
  s : Int
  cavs : List Cav
  proof : Tag
  dis : List Value
def Bun.cells (b : Bun) : List Value := [.int .i64 b.g, .int .i64 b.n, .int .i64 b.e, .int .i64 b.s, deep (b.cavs.map Cav.v)] ++ b.proof.cells ++ [deep b.dis]
def Bun.v (b : Bun) : Value := ag b.cells
@[simp] theorem Bun.len (b : Bun) : b.cells.length = 38 := by simp [Bun.cells]
@[simp] theorem Bun.dg1s (b : Bun) : b.cells.map dg1 = b.cells := by simp [Bun.cells]
@[simp] theorem Bun.dgv (b : Bun) : dg b.v = b.v := _root_.id rfl
@[simp] theorem Bun.cellsOf (b : Bun) : PE.cellsOf b.v = some b.cells := _root_.id rfl
@[simp] theorem Bun.take38 (b : Bun) : b.cells.take 38 = b.cells := List.take_of_length_le (by simp)
@[simp] theorem Bun.get4 (b : Bun) : b.cells[4]? = some (deep (b.cavs.map Cav.v)) := _root_.id rfl
@[simp] theorem Bun.getE4 (b : Bun) (h : 4 < b.cells.length) : b.cells[4] = deep (b.cavs.map Cav.v) := _root_.id rfl
theorem Bun.ag (b : Bun) : PE.ag b.cells = b.v := rfl
theorem elem_cav {l : List Cav} {n : Int} (h0 : 0 ≤ n) (hn : n.toNat < l.length) : elemAt (l.map Cav.v) n 10 = some (dptr 0 l[n.toNat].cells) := elemAt_map h0 hn rfl (by simp)
end Go.PE
namespace Go.PE
open Go
def idxF (t : Tag) : List Cnt → Int → Int
  | [], _ => -1
  | c :: r, i => if c.tag = t then i else idxF t r (i + 1)
def idx (l : List Cnt) (t : Tag) : Int := idxF t l 0
theorem idxF_step {l : List Cnt} {t : Tag} {i : Nat} (hi : i < l.length) : idxF t (l.drop i) i = if l[i].tag = t then (i : Int) else idxF t (l.drop (i + 1)) (i + 1 : Nat) := by
  rw [List.drop_eq_getElem_cons hi]; simp [idxF]
theorem drop_all {α : Type} {l : List α} {i : Nat} (h : l.length ≤ i) : l.drop i = [] := List.drop_eq_nil_of_le h
def IndexOK (P : Program) (f : Nat) : Prop := ∀ (l : List Cnt) (t : Tag), l.length ≤ maxLen → ∀ (H : Nat → Option (List Value)) (nx : Nat),
    PCalls P f [deep (l.map Cnt.v), t.v] H nx (fun _ => False) (fun r H' _ => r = .int .i64 (idx l t) ∧ H' = H)
theorem index_ok {P : Program} {f : Nat} (hc : compFn P f = some (20, ledger_indexC, [.t 4])) : IndexOK P f := by
  intro l t hlen H nx
  refine PCalls_of hc (by simp) fun hw => ?_
  have hmx : (maxLen : Int) = 9223372036854775807 := rfl
  simp [ledger_indexC]
  refine wpc_loop _ _ _ _ _ _ (fun s => ∃ i : Nat, i ≤ l.length ∧ s.t 0 = deep (l.map Cnt.v) ∧ s.t 3 = ptr nx 0 ∧ s.t 7 = .int .i64 l.length ∧ s.t 8 = .int .i64 i ∧ s.H = upd H nx (some t.cells) ∧ idx l t = idxF t (l.drop i) i)
    (fun s => match s.t 8 with | .int _ i => (l.length - i).toNat | _ => 0) _ ⟨0, by omega, by simp, by simp, by simp, by simp, rfl, rfl⟩ ?_
  rintro ⟨T, H', nx'⟩ ⟨i, hi1, e0, e3, e7, e8, rfl, hall⟩
  simp only at e0 e3 e7 e8
  simp [e0, e3, e7, e8]
  refine wB_of (fun hlt => ?_) (fun hlt => ?_)
  · simp at hlt
    have he := elem_cnt (l := l) (n := (i : Int)) (by omega) (by simpa using hlt)
    simp at he
    simp [ledger_indexC_j1, e0, e3, e7, e8, he, -List.reduceReplicate]
    have hst := idxF_step (t := t) hlt
    refine wB_of (fun h => ?_) (fun h => ?_)
    · simp at h
      exact wF_own hw (by simp) (by simp [hall, hst, h])
    · simp at h
      try simp [e8]
      rw [w64 (x := (i : Int) + 1) (by omega) (by omega)]
      refine kLoop_nrm _ _ _ _ (Sub_refl _ _) ⟨i + 1, by omega, by simp [e0], by simp [e3], by simp [e7], by simp, rfl, ?_⟩ (by simp; omega)
      rw [hall, hst, if_neg h]
  · simp at hlt
    refine wF_own hw (by simp) ?_
    rw [drop_all hlt] at hall
    simp [hall, idxF]
/-- how many rides -/
def numF (t : Tag) : List Cnt → Int
  | [] => 0
  | c :: r => if c.tag = t then c.n else numF t r
def NumOK (P : Program) (f : Nat) : Prop := ∀ (l : List Cnt) (t : Tag), l.length ≤ maxLen → ∀ (H : Nat → Option (List Value)) (nx : Nat),
    PCalls P f [deep (l.map Cnt.v), t.v] H nx (fun _ => False) (fun r H' _ => r = .int .i64 (numF t l) ∧ H' = H)
theorem idx_num (t : Tag) : ∀ (l : List Cnt) (i : Nat), (idxF t l i = -1 ∧ numF t l = 0 ∧ ∀ c ∈ l, c.tag ≠ t) ∨ ∃ (j : Nat) (c : Cnt), idxF t l i = ((i + j : Nat) : Int) ∧ l[j]? = some c ∧ c.tag = t ∧ numF t l = c.n ∧ ∀ k, k < j → ∀ d, l[k]? = some d → d.tag ≠ t
  | [], i => .inl ⟨rfl, rfl, by simp⟩
  | c :: r, i => by
    by_cases h : c.tag = t
    · exact .inr ⟨0, c, by simp [idxF, h], rfl, h, by simp [numF, h], fun k hk => by omega⟩
    · rcases idx_num t r (i + 1) with ⟨h1, h2, h3⟩ | ⟨j, d, h1, h2, h3, h4, h5⟩
      · refine .inl ⟨by simp only [idxF, h, if_false]; exact_mod_cast h1, by simp [numF, h, h2], ?_⟩
        intro d hd
        simp only [List.mem_cons] at hd
        rcases hd with rfl | hd
        · exact h
        · exact h3 d hd
      · refine .inr ⟨j + 1, d, ?_, by simpa using h2, h3, by simp [numF, h, h4], ?_⟩
        · simp only [idxF, h, if_false]
          have : ((i : Int) + 1) = ((i + 1 : Nat) : Int) := by omega
          rw [this, h1]; omega
        · intro k hk e he
          cases k with
          | zero => simp at he; subst he; exact h
          | succ k => exact h5 k (by omega) e (by simpa using he)
theorem idx_cases (l : List Cnt) (t : Tag) : (idx l t = -1 ∧ numF t l = 0 ∧ ∀ c ∈ l, c.tag ≠ t) ∨ ∃ (j : Nat) (c : Cnt), idx l t = (j : Int) ∧ l[j]? = some c ∧ c.tag = t ∧ numF t l = c.n ∧ ∀ k, k < j → ∀ d, l[k]? = some d → d.tag ≠ t := by
  have := idx_num t l 0
  simpa [idx] using this
theorem number_ok {P : Program} {f x : Nat} (hc : compFn P f = some (16, ledger_NumberC x, [.t 4])) (hx : IndexOK P x) : NumOK P f := by
  intro l t hlen H nx
  refine PCalls_of hc (by simp) fun hw => ?_
  simp [ledger_NumberC]
  refine wCall_eq (Q := fun r => r = .int .i64 (idx l t)) (hx l t hlen _ _) fun r n1 hr hn1 => ?_
  subst hr
  rcases idx_cases l t with ⟨h1, h2, _⟩ | ⟨j, c, h1, h2, h3, h4, _⟩
  · simp [h1]
    exact wF_own hw (by simp) (by simp [h2])
  · have hj : j < l.length := (List.getElem?_eq_some_iff.1 h2).1
    have hc' : l[j] = c := (List.getElem?_eq_some_iff.1 h2).2
    have he := elem_cnt (l := l) (n := (j : Int)) (by omega) (by simpa using hj)
    simp [hc'] at he
    have h0 : ¬ (j : Int) < 0 := by omega
    simp [h1, he, h0]
    exact wF_own hw (by simp) (by simp [h4])
theorem numF_step {l : List Cnt} {t : Tag} {i : Nat} (hi : i < l.length) : numF t (l.drop i) = if l[i].tag = t then l[i].n else numF t (l.drop (i + 1)) := by
  rw [List.drop_eq_getElem_cons hi]; simp [numF]
theorem rnumber_ok {P : Program} {f : Nat} (hc : compFn P f = some (24, ref26_NumberC, [.t 4])) : NumOK P f := by
  intro l t hlen H nx
  refine PCalls_of hc (by simp) fun hw => ?_
  have hmx : (maxLen : Int) = 9223372036854775807 := rfl
  simp [ref26_NumberC]
  refine wpc_loop _ _ _ _ _ _ (fun s => ∃ i : Nat, i ≤ l.length ∧ s.t 0 = deep (l.map Cnt.v) ∧ s.t 3 = ptr nx 0 ∧ s.t 5 = .int .i64 i ∧ s.H = upd H nx (some t.cells) ∧ numF t l = numF t (l.drop i))
    (fun s => match s.t 5 with | .int _ i => (l.length - i).toNat | _ => 0) _ ⟨0, by omega, by simp, by simp, by simp, rfl, rfl⟩ ?_
  rintro ⟨T, H', nx'⟩ ⟨i, hi1, e0, e3, e5, rfl, hall⟩
  simp only at e0 e3 e5
  simp [e0, e3, e5]
  refine wB_of (fun hlt => ?_) (fun hlt => ?_)
  · simp at hlt
    have he := elem_cnt (l := l) (n := (i : Int)) (by omega) (by simpa using hlt)
    simp at he
    simp [ref26_NumberC_j1, e0, e3, e5, he, -List.reduceReplicate]
    have hst := numF_step (t := t) hlt
    refine wB_of (fun h => ?_) (fun h => ?_)
    · simp at h
      try simp [e0, e3, e5, he]
      exact wF_own hw (by simp) (by simp [hall, hst, h])
    · simp at h
      try simp [e5]
      rw [w64 (x := (i : Int) + 1) (by omega) (by omega)]
      refine kLoop_nrm _ _ _ _ (Sub_refl _ _) ⟨i + 1, by omega, by simp [e0], by simp [e3], by simp, rfl, ?_⟩ (by simp; omega)
      rw [hall, hst, if_neg h]
  · simp at hlt
    refine wF_own hw (by simp) ?_
    rw [drop_all hlt] at hall
    simp [hall, numF]
/-- are counts valid? pre: those before -/
def okF : List Cnt → List Cnt → Bool
  | _, [] => true
  | pre, c :: r => decide (1 ≤ c.n) && decide (c.n ≤ 281474976710656) && (pre.all fun d => decide (d.tag ≠ c.tag)) && okF (pre ++ [c]) r
def okC (l : List Cnt) : Bool := okF [] l
theorem okF_step {l : List Cnt} {i : Nat} (hi : i < l.length) : okF (l.take i) (l.drop i) = (decide (1 ≤ l[i].n) && decide (l[i].n ≤ 281474976710656) && ((l.take i).all fun d => decide (d.tag ≠ l[i].tag)) && okF (l.take (i + 1)) (l.drop (i + 1))) := by
  rw [List.drop_eq_getElem_cons hi]; simp only [okF]
  rw [← List.take_succ_eq_append_getElem hi]
theorem idx_lt {l : List Cnt} {i : Nat} (hi : i < l.length) : decide (idx l l[i].tag < (i : Int)) = !((l.take i).all fun d => decide (d.tag ≠ l[i].tag)) := by
  rcases idx_cases l l[i].tag with ⟨_, _, h3⟩ | ⟨j, c, h1, h2, h3, _, h5⟩
  · exact absurd rfl (h3 l[i] (List.getElem_mem hi))
  · rw [h1]
    have hji : j ≤ i := by
      rcases Nat.lt_or_ge i j with h | h
      · exact absurd rfl (h5 i h _ (List.getElem?_eq_getElem hi))
      · exact h
    by_cases hlt : j < i
    · have e1 : ((l.take i).all fun d => decide (d.tag ≠ l[i].tag)) = false := by
        rw [List.all_eq_false]
        have hm : c ∈ l.take i := List.mem_of_getElem? (by rw [List.getElem?_take, if_pos hlt]; exact h2 : (l.take i)[j]? = some c)
        exact ⟨c, hm, by simp [h3]⟩
      rw [e1]; simp; omega
    · obtain rfl : j = i := by omega
      have e1 : ((l.take j).all fun d => decide (d.tag ≠ l[j].tag)) = true := by
        rw [List.all_eq_true]
        intro d hd
        obtain ⟨k, hk⟩ := List.getElem?_of_mem hd
        rw [List.getElem?_take] at hk
        split at hk
        · rename_i hkj; simpa using h5 k hkj d hk
        · cases hk
      rw [e1]; simp
def CValOK (P : Program) (f : Nat) : Prop := ∀ (l : List Cnt), l.length ≤ maxLen → ∀ (H : Nat → Option (List Value)) (nx : Nat),
    PCalls P f [deep (l.map Cnt.v)] H nx (fun _ => False) (fun r H' _ => r = .bool (okC l) ∧ H' = H)
theorem lvalid_ok {P : Program} {f x : Nat} (hc : compFn P f = some (35, ledger_ValidC x, [.t 2])) (hx : IndexOK P x) : CValOK P f := by
  intro l hlen H nx
  refine PCalls_of hc (by simp) fun hw => ?_
  have hmx : (maxLen : Int) = 9223372036854775807 := rfl
  simp [ledger_ValidC]
  refine wpc_loop _ _ _ _ _ _ (fun s => ∃ i : Nat, i ≤ l.length ∧ s.t 0 = deep (l.map Cnt.v) ∧ s.t 5 = .int .i64 l.length ∧ s.t 6 = .int .i64 i ∧ s.H = H ∧ okC l = okF (l.take i) (l.drop i))
    (fun s => match s.t 6 with | .int _ i => (l.length - i).toNat | _ => 0) _ ⟨0, by omega, by simp, by simp, by simp, rfl, by simp [okC]⟩ ?_
  rintro ⟨T, H', nx'⟩ ⟨i, hi1, e0, e5, e6, rfl, hall⟩
  simp only at e0 e5 e6
  simp [e0, e5, e6]
  refine wB_of (fun hlt => ?_) (fun hlt => ?_)
  · simp at hlt
    have he := elem_cnt (l := l) (n := (i : Int)) (by omega) (by simpa using hlt)
    simp at he
    have hst := okF_step hlt
    have hidx := idx_lt hlt
    by_cases c1 : l[i].n < 1
    · simp [ledger_ValidC_j1, e0, e5, e6, he, c1]
      exact wF_of ⟨by simp [hall, hst, show ¬ 1 ≤ l[i].n by omega], rfl⟩
    · by_cases c2 : l[i].n > 281474976710656
      · simp [ledger_ValidC_j1, e0, e5, e6, he, c1, c2]
        exact wF_of ⟨by simp [hall, hst, show ¬ l[i].n ≤ 281474976710656 by omega], rfl⟩
      · simp [ledger_ValidC_j1, e0, e5, e6, he, c1, c2]
        refine wCall_eq (Q := fun r => r = .int .i64 (idx l l[i].tag)) (hx l l[i].tag hlen _ _) fun r n1 hr hn1 => ?_
        subst hr
        by_cases hd : idx l l[i].tag < (i : Int)
        · simp [e6, hd]
          rw [decide_eq_true hd] at hidx
          have hall2 : ((l.take i).all fun d => decide (d.tag ≠ l[i].tag)) = false := by simpa using hidx.symm
          rw [hall2] at hst
          exact wF_of ⟨by simp [hall, hst], rfl⟩
        · simp [e6, hd]
          rw [decide_eq_false hd] at hidx
          have hall2 : ((l.take i).all fun d => decide (d.tag ≠ l[i].tag)) = true := by simpa using hidx.symm
          rw [hall2] at hst
          rw [w64 (x := (i : Int) + 1) (by omega) (by omega)]
          refine kLoop_nrm _ _ _ _ (Sub_refl _ _) ⟨i + 1, by omega, by simp [e0], by simp [e5], by simp, rfl, ?_⟩ (by simp; omega)
          rw [hall, hst]
          simp [show 1 ≤ l[i].n by omega, show l[i].n ≤ 281474976710656 by omega]
  · simp at hlt
    rw [drop_all hlt] at hall
    exact wF_of ⟨by simp [hall, okF], rfl⟩
/-- the references' -/
theorem rvalidC_ok {P : Program} {f : Nat} (hc : compFn P f = some (41, ref26_CountsOkC, [.t 2])) : CValOK P f := by
  intro l hlen H nx
  refine PCalls_of hc (by simp) fun hw => ?_
  have hmx : (maxLen : Int) = 9223372036854775807 := rfl
  simp [ref26_CountsOkC]
  refine wpc_loop _ _ _ _ _ _ (fun s => ∃ i : Nat, i ≤ l.length ∧ s.t 0 = deep (l.map Cnt.v) ∧ s.t 3 = .int .i64 i ∧ s.H = H ∧ okC l = okF (l.take i) (l.drop i))
    (fun s => match s.t 3 with | .int _ i => (l.length - i).toNat | _ => 0) _ ⟨0, by omega, by simp, by simp, rfl, by simp [okC]⟩ ?_
  rintro ⟨T, H', nx'⟩ ⟨i, hi1, e0, e3, rfl, hall⟩
  simp only at e0 e3
  simp [e0, e3]
  refine wB_of (fun hlt => ?_) (fun hlt => ?_)
  · simp at hlt
    have he := elem_cnt (l := l) (n := (i : Int)) (by omega) (by simpa using hlt)
    simp at he
    have hst := okF_step hlt
    by_cases c1 : l[i].n < 1
    · simp [ref26_CountsOkC_j3, e0, e3, he, c1]
      exact wF_of ⟨by simp [hall, hst, show ¬ 1 ≤ l[i].n by omega], rfl⟩
    · by_cases c2 : l[i].n > 281474976710656
      · simp [ref26_CountsOkC_j3, e0, e3, he, c1, c2]
        exact wF_of ⟨by simp [hall, hst, show ¬ l[i].n ≤ 281474976710656 by omega], rfl⟩
      · simp [ref26_CountsOkC_j3, ref26_CountsOkC_j2, e0, e3, he, c1, c2]
        refine wpc_loop _ _ _ _ _ _ (fun s => ∃ j : Nat, j ≤ i ∧ s.t 0 = deep (l.map Cnt.v) ∧ s.t 3 = .int .i64 i ∧ s.t 4 = .int .i64 j ∧ s.H = H' ∧ ∀ k, k < j → ∀ d, l[k]? = some d → d.tag ≠ l[i].tag)
          (fun s => match s.t 4 with | .int _ j => (i - j).toNat | _ => 0) _ ⟨0, by omega, by simp [e0], by simp [e3], by simp, rfl, fun k hk => by omega⟩ ?_
        rintro ⟨T2, H2, nx2⟩ ⟨j, hj1, f0, f3, f4, rfl, hno⟩
        simp only at f0 f3 f4
        simp [f0, f3, f4]
        refine wB_of (fun hjt => ?_) (fun hjt => ?_)
        · simp at hjt
          have hjl : j < l.length := by omega
          have hej := elem_cnt (l := l) (n := (j : Int)) (by omega) (by simpa using hjl)
          simp at hej
          simp [ref26_CountsOkC_j1, f0, f3, f4, he, hej, -List.reduceReplicate]
          refine wB_of (fun h => ?_) (fun h => ?_)
          · simp at h
            have hall2 : ((l.take i).all fun d => decide (d.tag ≠ l[i].tag)) = false := by
              rw [List.all_eq_false]
              exact ⟨l[j], List.mem_of_getElem? (by rw [List.getElem?_take, if_pos hjt]; exact List.getElem?_eq_getElem hjl : (l.take i)[j]? = some l[j]), by simp [h]⟩
            rw [hall2] at hst
            exact wF_of ⟨by simp [hall, hst], rfl⟩
          · simp at h
            try simp [f4]
            rw [w64 (x := (j : Int) + 1) (by omega) (by omega)]
            refine kLoop_nrm _ _ _ _ (Sub_refl _ _) ⟨j + 1, by omega, by simp [f0], by simp [f3], by simp, rfl, fun k hk d hd => ?_⟩ (by simp; omega)
            by_cases hkj : k < j
            · exact hno k hkj d hd
            · obtain rfl : k = j := by omega
              rw [List.getElem?_eq_getElem hjl] at hd
              obtain rfl := Option.some.inj hd
              exact h
        · simp at hjt
          have hall2 : ((l.take i).all fun d => decide (d.tag ≠ l[i].tag)) = true := by
            rw [List.all_eq_true]
            intro d hd
            obtain ⟨k, hk⟩ := List.getElem?_of_mem hd
            rw [List.getElem?_take] at hk
            split at hk
            · rename_i hki; simpa using hno k (by omega) d hk
            · cases hk
          rw [hall2] at hst
          try simp [f3]
          rw [w64 (x := (i : Int) + 1) (by omega) (by omega)]
          refine kLoop_nrm _ _ _ _ (Sub_refl _ _) ⟨i + 1, by omega, by simp [f0], by simp, rfl, ?_⟩ (by simp; omega)
          rw [hall, hst]
          simp [show 1 ≤ l[i].n by omega, show l[i].n ≤ 281474976710656 by omega]
  · simp at hlt
    rw [drop_all hlt] at hall
    exact wF_of ⟨by simp [hall, okF], rfl⟩
end Go.PE
namespace Go.PE
open Go
theorem drop_eq {α : Type} {la lb : List α} {i : Nat} (ha : i < la.length) (hb : i < lb.length) : (la.drop i = lb.drop i) ↔ (la[i] = lb[i] ∧ la.drop (i + 1) = lb.drop (i + 1)) := by
  rw [List.drop_eq_getElem_cons ha, List.drop_eq_getElem_cons hb, List.cons.injEq]
def SameCOK (P : Program) (f : Nat) : Prop := ∀ (la lb : List Cnt), la.length ≤ maxLen → lb.length ≤ maxLen → ∀ (H : Nat → Option (List Value)) (nx : Nat),
    PCalls P f [deep (la.map Cnt.v), deep (lb.map Cnt.v)] H nx (fun _ => False) (fun r H' _ => r = .bool (decide (la = lb)) ∧ H' = H)
theorem sameC_ok {P : Program} {f : Nat} (hc : compFn P f = some (26, ref26_SameCountsC, [.t 4])) : SameCOK P f := by
  intro la lb hla hlb H nx
  refine PCalls_of hc (by simp) fun hw => ?_
  have hmx : (maxLen : Int) = 9223372036854775807 := rfl
  simp [ref26_SameCountsC]
  refine wB_of (fun h => ?_) (fun h => ?_)
  · simp at h
    exact wF_of ⟨by simp; intro e; rw [e] at h; exact h rfl, rfl⟩
  simp at h
  simp [ref26_SameCountsC_j2]
  refine wpc_loop _ _ _ _ _ _ (fun s => ∃ i : Nat, i ≤ la.length ∧ s.t 0 = deep (la.map Cnt.v) ∧ s.t 1 = deep (lb.map Cnt.v) ∧ s.t 5 = .int .i64 i ∧ s.H = H ∧ (la = lb ↔ la.drop i = lb.drop i))
    (fun s => match s.t 5 with | .int _ i => (la.length - i).toNat | _ => 0) _ ⟨0, by omega, by simp, by simp, by simp, rfl, by simp⟩ ?_
  rintro ⟨T, H', nx'⟩ ⟨i, hi1, e0, e1, e5, rfl, hall⟩
  simp only at e0 e1 e5
  simp [e0, e1, e5]
  refine wB_of (fun hlt => ?_) (fun hlt => ?_)
  · simp at hlt
    have hlt' : i < lb.length := by omega
    have he := elem_cnt (l := la) (n := (i : Int)) (by omega) (by simpa using hlt)
    have he' := elem_cnt (l := lb) (n := (i : Int)) (by omega) (by simpa using hlt')
    simp at he he'
    simp [ref26_SameCountsC_j1, e0, e1, e5, he, he', -List.reduceReplicate]
    have hst := drop_eq hlt hlt'
    refine wB_of (fun h => ?_) (fun h => ?_)
    · simp at h
      refine wF_of ⟨by simp [hall, hst, h], rfl⟩
    · simp at h
      try simp [e5]
      rw [w64 (x := (i : Int) + 1) (by omega) (by omega)]
      refine kLoop_nrm _ _ _ _ (Sub_refl _ _) ⟨i + 1, by omega, by simp [e0], by simp [e1], by simp, rfl, ?_⟩ (by simp; omega)
      rw [hall, hst]; simp [h]
  · simp at hlt
    refine wF_of ⟨?_, rfl⟩
    rw [drop_all hlt, drop_all (by omega)] at hall
    simp [hall]
def SameTOK (P : Program) (f : Nat) : Prop := ∀ (la lb : List Tag), la.length ≤ maxLen → lb.length ≤ maxLen → ∀ (H : Nat → Option (List Value)) (nx : Nat),
    PCalls P f [deep (la.map Tag.v), deep (lb.map Tag.v)] H nx (fun _ => False) (fun r H' _ => r = .bool (decide (la = lb)) ∧ H' = H)
theorem sameT_ok {P : Program} {f : Nat} (hc : compFn P f = some (26, ref01_SameTagsC, [.t 4])) : SameTOK P f := by
  intro la lb hla hlb H nx
  refine PCalls_of hc (by simp) fun hw => ?_
  have hmx : (maxLen : Int) = 9223372036854775807 := rfl
  simp [ref01_SameTagsC]
  refine wB_of (fun h => ?_) (fun h => ?_)
  · simp at h
    exact wF_of ⟨by simp; intro e; rw [e] at h; exact h rfl, rfl⟩
  simp at h
  simp [ref01_SameTagsC_j2]
  refine wpc_loop _ _ _ _ _ _ (fun s => ∃ i : Nat, i ≤ la.length ∧ s.t 0 = deep (la.map Tag.v) ∧ s.t 1 = deep (lb.map Tag.v) ∧ s.t 5 = .int .i64 i ∧ s.H = H ∧ (la = lb ↔ la.drop i = lb.drop i))
    (fun s => match s.t 5 with | .int _ i => (la.length - i).toNat | _ => 0) _ ⟨0, by omega, by simp, by simp, by simp, rfl, by simp⟩ ?_
  rintro ⟨T, H', nx'⟩ ⟨i, hi1, e0, e1, e5, rfl, hall⟩
  simp only at e0 e1 e5
  simp [e0, e1, e5]
  refine wB_of (fun hlt => ?_) (fun hlt => ?_)
  · simp at hlt
    have hlt' : i < lb.length := by omega
    have he := elem_tag (l := la) (n := (i : Int)) (by omega) (by simpa using hlt)
    have he' := elem_tag (l := lb) (n := (i : Int)) (by omega) (by simpa using hlt')
    simp at he he'
    simp [ref01_SameTagsC_j1, e0, e1, e5, he, he', -List.reduceReplicate]
    have hst := drop_eq hlt hlt'
    refine wB_of (fun h => ?_) (fun h => ?_)
    · simp at h
      refine wF_of ⟨by simp [hall, hst, h], rfl⟩
    · simp at h
      try simp [e5]
      rw [w64 (x := (i : Int) + 1) (by omega) (by omega)]
      refine kLoop_nrm _ _ _ _ (Sub_refl _ _) ⟨i + 1, by omega, by simp [e0], by simp [e1], by simp, rfl, ?_⟩ (by simp; omega)
      rw [hall, hst]; simp [h]
  · simp at hlt
    refine wF_of ⟨?_, rfl⟩
    rw [drop_all hlt, drop_all (by omega)] at hall
    simp [hall]
end Go.PE
namespace Go.PE
open Go
theorem fk_append {P : Program} : ∀ {l ks : List FK} {xs : List Value}, fkAll P (l ++ ks) xs → ∃ a b, xs = a ++ b ∧ fkAll P l a ∧ fkAll P ks b
  | [], ks, xs, h => ⟨[], xs, rfl, trivial, h⟩
  | k :: l, ks, xs, h => by
    obtain ⟨v, vs, rfl, h1, h2⟩ := fk_cons h
    obtain ⟨a, b, rfl, h3, h4⟩ := fk_append h2
    exact ⟨v :: a, b, rfl, ⟨h1, h3⟩, h4⟩
theorem fk_rep {P : Program} {k : IntKind} : ∀ {n : Nat} {cs : List Value}, fkAll P (List.replicate n (.int k)) cs → ∃ l : List Int, cs = l.map (.int k) ∧ l.length = n
  | 0, cs, h => ⟨[], fk_nil h, rfl⟩
  | n + 1, cs, h => by
    obtain ⟨v, vs, rfl, ⟨m, rfl, _⟩, h2⟩ := fk_cons h
    obtain ⟨l, rfl, rfl⟩ := fk_rep h2
    exact ⟨m :: l, rfl, rfl⟩
theorem tag_of {P : Program} {t n e : Nat} (h : P.underlying t = some (.array n e)) (hf : flat P 3 t = some (List.replicate 32 (.int .u8))) {cs : List Value} (hp : PTy P t cs) : ∃ q : Tag, toV P t cs = q.v := by
  obtain ⟨l, rfl, hl⟩ := fk_rep (flat_ok 3 t _ cs hf hp)
  exact ⟨⟨l, hl⟩, toV_arr h _⟩
theorem cnt_of {P : Program} {t : Nat} (h : ∃ fs, P.underlying t = some (.struct fs)) (hf : flat P 4 t = some (List.replicate 32 (.int .u8) ++ [.int .i64])) {cs : List Value} (hp : PTy P t cs) : ∃ q : Cnt, toV P t cs = q.v := by
  obtain ⟨fs, h⟩ := h
  obtain ⟨a, b, rfl, h1, h2⟩ := fk_append (flat_ok 4 t _ cs hf hp)
  obtain ⟨l, rfl, hl⟩ := fk_rep h1
  obtain ⟨v, vs, rfl, ⟨n, rfl, _⟩, h3⟩ := fk_cons h2
  obtain rfl := fk_nil h3
  exact ⟨⟨⟨l, hl⟩, n⟩, toV_ag h _⟩
end Go.PE
namespace Go.PE
open Go
/-- macaroon/macaroonlaw27.awake: 45 slots, results [(.t 0)] -/
def law27_awakeC (f_concession_New : Nat) (t_api_Person : Nat) (f_concession_Register : Nat) : PC :=
  (.seq (.reg [((some 0), (none, (.mv (.const (.bool false)))))])
  (.seq (.reg [((some 7), (none, (.build [(.inr ((.const (.int .u8 5)), 1)), (.inl [(.int .u8 0)]), (.inl [(.int .u8 0)]), (.inl [(.int .u8 0)]), (.inl [(.int .u8 0)]), (.inl [(.int .u8 0)]), (.inl [(.int .u8 0)]), (.inl [(.int .u8 0)]), (.inl [(.int .u8 0)]), (.inl [(.int .u8 0)]), (.inl [(.int .u8 0)]), (.inl [(.int .u8 0)]), (.inl [(.int .u8 0)]), (.inl [(.int .u8 0)]), (.inl [(.int .u8 0)]), (.inl [(.int .u8 0)]), (.inl [(.int .u8 0)]), (.inl [(.int .u8 0)]), (.inl [(.int .u8 0)]), (.inl [(.int .u8 0)]), (.inl [(.int .u8 0)]), (.inl [(.int .u8 0)]), (.inl [(.int .u8 0)]), (.inl [(.int .u8 0)]), (.inl [(.int .u8 0)]), (.inl [(.int .u8 0)]), (.inl [(.int .u8 0)]), (.inl [(.int .u8 0)]), (.inl [(.int .u8 0)]), (.inl [(.int .u8 0)]), (.inl [(.int .u8 0)]), (.inl [(.int .u8 0)])]))),
    ((some 8), (none, (.call f_concession_New [(.const (.int .i64 1)), (.tmp 7)]))),
    ((some 6), (none, (.steal 8))),
    ((some 9), (none, (.extr 6 0))),
    ((some 10), (none, (.extr 6 1))),
    ((some 1), (none, (.alloc [(.int .i64 0), (.int .u8 0), (.int .u8 0), (.int .u8 0), (.int .u8 0), (.int .u8 0), (.int .u8 0), (.int .u8 0), (.int .u8 0), (.int .u8 0), (.int .u8 0), (.int .u8 0), (.int .u8 0), (.int .u8 0), (.int .u8 0), (.int .u8 0), (.int .u8 0), (.int .u8 0), (.int .u8 0), (.int .u8 0), (.int .u8 0), (.int .u8 0), (.int .u8 0), (.int .u8 0), (.int .u8 0), (.int .u8 0), (.int .u8 0), (.int .u8 0), (.int .u8 0), (.int .u8 0), (.int .u8 0), (.int .u8 0), (.int .u8 0), (lin t_api_Person [])]))),
    (none, (none, (.st 34 (.tmp 1) (.tmp 9)))),
    ((some 2), (none, (.mv (.tmp 10))))])
  (.seq (.reg [((some 12), (none, (.ldA 34 (.tmp 1)))),
    ((some 13), (none, (.build [(.inr ((.const (.string ⟨#[97, 110, 110]⟩)), 1)), (.inl [(.int .i64 0)])]))),
    ((some 14), (none, (.call f_concession_Register [(.tmp 12), (.tmp 13)]))),
    ((some 11), (none, (.steal 14))),
    ((some 15), (none, (.extr 11 0))),
    ((some 16), (none, (.extr 11 1))),
    (none, (none, (.st 34 (.tmp 1) (.tmp 15)))),
    ((some 3), (none, (.mv (.tmp 16))))])
  (.seq (.reg [((some 18), (none, (.ldA 34 (.tmp 1)))),
    ((some 19), (none, (.build [(.inr ((.const (.string ⟨#[97, 110, 110]⟩)), 1)), (.inr ((.const (.int .i64 3)), 1))]))),
    ((some 20), (none, (.call f_concession_Register [(.tmp 18), (.tmp 19)]))),
    ((some 17), (none, (.steal 20))),
    ((some 21), (none, (.extr 17 0))),
    ((some 22), (none, (.extr 17 1))),
    ((some 4), (none, (.alloc [(.int .i64 0), (.int .u8 0), (.int .u8 0), (.int .u8 0), (.int .u8 0), (.int .u8 0), (.int .u8 0), (.int .u8 0), (.int .u8 0), (.int .u8 0), (.int .u8 0), (.int .u8 0), (.int .u8 0), (.int .u8 0), (.int .u8 0), (.int .u8 0), (.int .u8 0), (.int .u8 0), (.int .u8 0), (.int .u8 0), (.int .u8 0), (.int .u8 0), (.int .u8 0), (.int .u8 0), (.int .u8 0), (.int .u8 0), (.int .u8 0), (.int .u8 0), (.int .u8 0), (.int .u8 0), (.int .u8 0), (.int .u8 0), (.int .u8 0), (lin t_api_Person [])]))),
    (none, (none, (.st 34 (.tmp 4) (.tmp 21)))),
    ((some 5), (none, (.mv (.tmp 22))))])
  (.seq (.reg [((some 23), (none, (.mv (.tmp 2)))),
    ((some 24), (none, (.bi .eql (.tmp 23) (.const (.int .i64 0))))),
    ((some 25), (none, (.mv (.tmp 24)))),
    ((some 26), ((some (25, true)), (.mv (.tmp 3)))),
    ((some 27), ((some (25, true)), (.bi .eql (.tmp 26) (.const (.int .i64 0))))),
    ((some 28), (none, (.pick (.tmp 25) (.tmp 27) (.const (.bool false))))),
    ((some 29), (none, (.mv (.tmp 28)))),
    ((some 30), ((some (29, true)), (.mv (.tmp 5)))),
    ((some 31), ((some (29, true)), (.bi .eql (.tmp 30) (.const (.int .i64 10))))),
    ((some 32), (none, (.pick (.tmp 29) (.tmp 31) (.const (.bool false))))),
    ((some 33), (none, (.mv (.tmp 32)))),
    ((some 34), ((some (33, true)), (.fa 33 (.tmp 1)))),
    ((some 35), ((some (33, true)), (.ld false (.tmp 34)))),
    ((some 36), ((some (33, true)), (.len (.tmp 35)))),
    ((some 37), ((some (33, true)), (.bi .eql (.tmp 36) (.const (.int .i64 1))))),
    ((some 38), (none, (.pick (.tmp 33) (.tmp 37) (.const (.bool false))))),
    ((some 39), (none, (.mv (.tmp 38)))),
    ((some 40), ((some (39, true)), (.fa 1 (.tmp 1)))),
    ((some 41), ((some (39, true)), (.ldA 32 (.tmp 40)))),
    ((some 42), ((some (39, true)), (.build [(.inr ((.const (.int .u8 5)), 1)), (.inl [(.int .u8 0)]), (.inl [(.int .u8 0)]), (.inl [(.int .u8 0)]), (.inl [(.int .u8 0)]), (.inl [(.int .u8 0)]), (.inl [(.int .u8 0)]), (.inl [(.int .u8 0)]), (.inl [(.int .u8 0)]), (.inl [(.int .u8 0)]), (.inl [(.int .u8 0)]), (.inl [(.int .u8 0)]), (.inl [(.int .u8 0)]), (.inl [(.int .u8 0)]), (.inl [(.int .u8 0)]), (.inl [(.int .u8 0)]), (.inl [(.int .u8 0)]), (.inl [(.int .u8 0)]), (.inl [(.int .u8 0)]), (.inl [(.int .u8 0)]), (.inl [(.int .u8 0)]), (.inl [(.int .u8 0)]), (.inl [(.int .u8 0)]), (.inl [(.int .u8 0)]), (.inl [(.int .u8 0)]), (.inl [(.int .u8 0)]), (.inl [(.int .u8 0)]), (.inl [(.int .u8 0)]), (.inl [(.int .u8 0)]), (.inl [(.int .u8 0)]), (.inl [(.int .u8 0)]), (.inl [(.int .u8 0)])]))),
    ((some 43), ((some (39, true)), (.eqA false (List.replicate 32 (.int .u8)) (.tmp 41) (.tmp 42)))),
    ((some 44), (none, (.pick (.tmp 39) (.tmp 43) (.const (.bool false))))),
    ((some 0), (none, (.mv (.tmp 44))))])
  .ret)))))
/-- macaroon/concession.New: 16 slots, results [(.cA 4 34), (.t 5)] -/
def concession_NewC_j1 : PC :=
  (.seq (.reg [((some 13), (none, (.mv (.tmp 0)))),
    ((some 14), (none, (.ldA 32 (.tmp 3)))),
    ((some 15), (none, (.build [(.inr ((.tmp 13), 1)), (.inr ((.tmp 14), 32)), (.inl [(deep [])])]))),
    (none, (none, (.st 34 (.tmp 4) (.tmp 15)))),
    ((some 5), (none, (.mv (.const (.int .i64 0)))))])
  .ret)
def concession_NewC (t_api_Person : Nat) : PC :=
  (.seq (.reg [((some 3), (none, (.box 32 (.tmp 1)))),
    ((some 4), (none, (.alloc [(.int .i64 0), (.int .u8 0), (.int .u8 0), (.int .u8 0), (.int .u8 0), (.int .u8 0), (.int .u8 0), (.int .u8 0), (.int .u8 0), (.int .u8 0), (.int .u8 0), (.int .u8 0), (.int .u8 0), (.int .u8 0), (.int .u8 0), (.int .u8 0), (.int .u8 0), (.int .u8 0), (.int .u8 0), (.int .u8 0), (.int .u8 0), (.int .u8 0), (.int .u8 0), (.int .u8 0), (.int .u8 0), (.int .u8 0), (.int .u8 0), (.int .u8 0), (.int .u8 0), (.int .u8 0), (.int .u8 0), (.int .u8 0), (.int .u8 0), (lin t_api_Person [])]))),
    ((some 5), (none, (.mv (.const (.int .i64 0)))))])
  (.seq (.seq (.reg [((some 6), (none, (.mv (.tmp 0)))),
    ((some 7), (none, (.bi .lss (.tmp 6) (.const (.int .i64 0))))),
    ((some 8), (none, (.mv (.tmp 7)))),
    ((some 9), ((some (8, false)), (.mv (.tmp 0)))),
    ((some 10), ((some (8, false)), (.bi .gtr (.tmp 9) (.const (.int .i64 7))))),
    ((some 11), (none, (.pick (.tmp 8) (.const (.bool true)) (.tmp 10))))])
  (.cond (.tmp 11)
    (.seq (.reg [((some 12), (none, (.build [(.inl [(.int .i64 0)]), (.inl (List.replicate 32 (.int .u8 0))), (.inl [(deep [])])]))),
      (none, (none, (.st 34 (.tmp 4) (.tmp 12)))),
      ((some 5), (none, (.mv (.const (.int .i64 1)))))])
  .ret)
    .skip))
  concession_NewC_j1))
/-- macaroon/macaroonref26.SameConcession: 45 slots, results [(.t 4)] -/
def ref26_SameConcessionC_j1 : PC :=
  (.seq (.block 1 (.seq (.drw [((some 34), (none, (.fa 33 (.tmp 2)))),
       ((some 35), (none, (.ld false (.tmp 34)))),
       ((some 36), (none, (.mv (.tmp 5)))),
       ((some 37), (none, (.ixS 2 (.tmp 35) (.tmp 36)))),
       ((some 38), (none, (.ldA 2 (.tmp 37)))),
       ((some 39), (none, (.fa 33 (.tmp 3)))),
       ((some 40), (none, (.ld false (.tmp 39)))),
       ((some 41), (none, (.mv (.tmp 5)))),
       ((some 42), (none, (.ixS 2 (.tmp 40) (.tmp 41)))),
       ((some 43), (none, (.ldA 2 (.tmp 42)))),
       ((some 44), (none, (.eqA true [.string, (.int .i64)] (.tmp 38) (.tmp 43))))])
  (.cond (.tmp 44)
       (.seq (.reg [((some 4), (none, (.mv (.const (.bool false)))))])
  .ret)
       .skip)))
  (.reg [((some 32), (none, (.mv (.tmp 5)))),
      ((some 33), (none, (.bi .add (.tmp 32) (.const (.int .i64 1))))),
      ((some 5), (none, (.mv (.tmp 33))))]))
def ref26_SameConcessionC_j2 : PC :=
  (.seq (.seq (.reg [((some 5), (none, (.mv (.const (.int .i64 0)))))])
  (.block 0 (.loop (.seq (.seq (.reg [((some 27), (none, (.mv (.tmp 5)))),
      ((some 28), (none, (.fa 33 (.tmp 2)))),
      ((some 29), (none, (.ld false (.tmp 28)))),
      ((some 30), (none, (.len (.tmp 29)))),
      ((some 31), (none, (.bi .lss (.tmp 27) (.tmp 30))))])
  (.cond (.tmp 31)
      .skip
      (.exit 0)))
  ref26_SameConcessionC_j1))))
  (.seq (.reg [((some 4), (none, (.mv (.const (.bool true)))))])
  .ret))
def ref26_SameConcessionC : PC :=
  (.seq (.reg [((some 2), (none, (.box 34 (.tmp 0)))),
    ((some 3), (none, (.box 34 (.tmp 1)))),
    ((some 4), (none, (.mv (.const (.bool false)))))])
  (.seq (.seq (.reg [((some 6), (none, (.fa 0 (.tmp 2)))),
    ((some 7), (none, (.ld false (.tmp 6)))),
    ((some 8), (none, (.fa 0 (.tmp 3)))),
    ((some 9), (none, (.ld false (.tmp 8)))),
    ((some 10), (none, (.bi .neq (.tmp 7) (.tmp 9)))),
    ((some 11), (none, (.mv (.tmp 10)))),
    ((some 12), ((some (11, false)), (.fa 1 (.tmp 2)))),
    ((some 13), ((some (11, false)), (.ldA 32 (.tmp 12)))),
    ((some 14), ((some (11, false)), (.fa 1 (.tmp 3)))),
    ((some 15), ((some (11, false)), (.ldA 32 (.tmp 14)))),
    ((some 16), ((some (11, false)), (.eqA true (List.replicate 32 (.int .u8)) (.tmp 13) (.tmp 15)))),
    ((some 17), (none, (.pick (.tmp 11) (.const (.bool true)) (.tmp 16)))),
    ((some 18), (none, (.mv (.tmp 17)))),
    ((some 19), ((some (18, false)), (.fa 33 (.tmp 2)))),
    ((some 20), ((some (18, false)), (.ld false (.tmp 19)))),
    ((some 21), ((some (18, false)), (.len (.tmp 20)))),
    ((some 22), ((some (18, false)), (.fa 33 (.tmp 3)))),
    ((some 23), ((some (18, false)), (.ld false (.tmp 22)))),
    ((some 24), ((some (18, false)), (.len (.tmp 23)))),
    ((some 25), ((some (18, false)), (.bi .neq (.tmp 21) (.tmp 24)))),
    ((some 26), (none, (.pick (.tmp 18) (.const (.bool true)) (.tmp 25))))])
  (.cond (.tmp 26)
    (.seq (.reg [((some 4), (none, (.mv (.const (.bool false)))))])
  .ret)
    .skip))
  ref26_SameConcessionC_j2))
/-- (*macaroon/macaroonmade.Deck).Concession: 11 slots, results [(.cA 4 34)] -/
def made_Deck_ConcessionC (t_api_Person : Nat) (f_made_Deck_Next : Nat) (f_made_Deck_Persons : Nat) : PC :=
  (.seq (.reg [((some 3), (none, (.box 32 (.tmp 1)))),
    ((some 4), (none, (.alloc [(.int .i64 0), (.int .u8 0), (.int .u8 0), (.int .u8 0), (.int .u8 0), (.int .u8 0), (.int .u8 0), (.int .u8 0), (.int .u8 0), (.int .u8 0), (.int .u8 0), (.int .u8 0), (.int .u8 0), (.int .u8 0), (.int .u8 0), (.int .u8 0), (.int .u8 0), (.int .u8 0), (.int .u8 0), (.int .u8 0), (.int .u8 0), (.int .u8 0), (.int .u8 0), (.int .u8 0), (.int .u8 0), (.int .u8 0), (.int .u8 0), (.int .u8 0), (.int .u8 0), (.int .u8 0), (.int .u8 0), (.int .u8 0), (.int .u8 0), (lin t_api_Person [])])))])
  (.seq (.ord (.one ((some 5), (none, (.mv (.tmp 0))))
    (.one ((some 8), (none, (.mv (.tmp 0))))
    (.alt (.one ((some 6), (none, (.call f_made_Deck_Next [(.tmp 5), (.const (.int .i64 8))])))
     (.alt (.one ((some 7), (none, (.ldA 32 (.tmp 3))))
      (.one ((some 9), (none, (.call f_made_Deck_Persons [(.tmp 8)])))
      (.one ((some 10), (none, (.build [(.inr ((.tmp 6), 1)), (.inr ((.tmp 7), 32)), (.inr ((.tmp 9), 1))])))
      (.one (none, (none, (.st 34 (.tmp 4) (.tmp 10))))
      .done))))
     (.one ((some 9), (none, (.call f_made_Deck_Persons [(.tmp 8)])))
      (.one ((some 7), (none, (.ldA 32 (.tmp 3))))
      (.one ((some 10), (none, (.build [(.inr ((.tmp 6), 1)), (.inr ((.tmp 7), 32)), (.inr ((.tmp 9), 1))])))
      (.one (none, (none, (.st 34 (.tmp 4) (.tmp 10))))
      .done))))))
    (.one ((some 7), (none, (.ldA 32 (.tmp 3))))
     (.one ((some 6), (none, (.call f_made_Deck_Next [(.tmp 5), (.const (.int .i64 8))])))
     (.one ((some 9), (none, (.call f_made_Deck_Persons [(.tmp 8)])))
     (.one ((some 10), (none, (.build [(.inr ((.tmp 6), 1)), (.inr ((.tmp 7), 32)), (.inr ((.tmp 9), 1))])))
     (.one (none, (none, (.st 34 (.tmp 4) (.tmp 10))))
     .done)))))))))
  .ret))
/-- macaroon/concession.Register: 43 slots, results [(.cA 4 34), (.t 5)] -/
def concession_RegisterC_j1 (t_api_Person : Nat) (f_slices_Clone_api_Person_api_Person : Nat) : PC :=
  (.seq (.ord (.one ((some 35), (none, (.fa 33 (.tmp 2))))
    (.one ((some 36), (none, (.ld false (.tmp 35))))
    (.alt (.one ((some 37), (none, (.call f_slices_Clone_api_Person_api_Person [(.tmp 36)])))
     (.one ((some 38), (none, (.ldA 2 (.tmp 3))))
     (.one ((some 39), (none, (.mks t_api_Person 2 false [(.tmp 38)])))
     (.one ((some 40), (none, (.app t_api_Person 2 24 37 (.tmp 39))))
     (.one ((some 41), (none, (.fa 33 (.tmp 2))))
     (.one (none, (none, (.sts (.tmp 41) 40)))
     .done))))))
    (.one ((some 38), (none, (.ldA 2 (.tmp 3))))
     (.one ((some 39), (none, (.mks t_api_Person 2 false [(.tmp 38)])))
     (.one ((some 37), (none, (.call f_slices_Clone_api_Person_api_Person [(.tmp 36)])))
     (.one ((some 40), (none, (.app t_api_Person 2 24 37 (.tmp 39))))
     (.one ((some 41), (none, (.fa 33 (.tmp 2))))
     (.one (none, (none, (.sts (.tmp 41) 40)))
     .done))))))))))
  (.seq (.reg [((some 42), (none, (.ldA 34 (.tmp 2)))),
    (none, (none, (.st 34 (.tmp 4) (.tmp 42)))),
    ((some 5), (none, (.mv (.const (.int .i64 0)))))])
  .ret))
def concession_RegisterC (t_api_Person : Nat) (f_concession_Valid : Nat) (f_concession_name : Nat) (f_concession_born : Nat) (f_concession_Register_1 : Nat) (f_slices_ContainsFunc_api_Person_api_Person : Nat) (f_slices_Clone_api_Person_api_Person : Nat) : PC :=
  (.seq (.reg [((some 2), (none, (.box 34 (.tmp 0)))),
    ((some 3), (none, (.box 2 (.tmp 1)))),
    ((some 4), (none, (.alloc [(.int .i64 0), (.int .u8 0), (.int .u8 0), (.int .u8 0), (.int .u8 0), (.int .u8 0), (.int .u8 0), (.int .u8 0), (.int .u8 0), (.int .u8 0), (.int .u8 0), (.int .u8 0), (.int .u8 0), (.int .u8 0), (.int .u8 0), (.int .u8 0), (.int .u8 0), (.int .u8 0), (.int .u8 0), (.int .u8 0), (.int .u8 0), (.int .u8 0), (.int .u8 0), (.int .u8 0), (.int .u8 0), (.int .u8 0), (.int .u8 0), (.int .u8 0), (.int .u8 0), (.int .u8 0), (.int .u8 0), (.int .u8 0), (.int .u8 0), (lin t_api_Person [])]))),
    ((some 5), (none, (.mv (.const (.int .i64 0)))))])
  (.seq (.block 0 (.seq (.reg [((some 7), (none, (.ldA 34 (.tmp 2)))),
     ((some 8), (none, (.call f_concession_Valid [(.tmp 7)]))),
     ((some 9), (none, (.un .not (.tmp 8)))),
     ((some 6), (none, (.mv (.tmp 9))))])
  (.cond (.tmp 6)
     (.seq (.reg [((some 10), (none, (.build [(.inl [(.int .i64 0)]), (.inl (List.replicate 32 (.int .u8 0))), (.inl [(deep [])])]))),
       (none, (none, (.st 34 (.tmp 4) (.tmp 10)))),
       ((some 5), (none, (.mv (.const (.int .i64 5)))))])
  .ret)
     (.seq (.reg [((some 12), (none, (.fa 0 (.tmp 3)))),
       ((some 13), (none, (.ld false (.tmp 12)))),
       ((some 14), (none, (.call f_concession_name [(.tmp 13)]))),
       ((some 15), (none, (.un .not (.tmp 14)))),
       ((some 11), (none, (.mv (.tmp 15))))])
  (.cond (.tmp 11)
       (.seq (.reg [((some 16), (none, (.build [(.inl [(.int .i64 0)]), (.inl (List.replicate 32 (.int .u8 0))), (.inl [(deep [])])]))),
         (none, (none, (.st 34 (.tmp 4) (.tmp 16)))),
         ((some 5), (none, (.mv (.const (.int .i64 7)))))])
  .ret)
       (.seq (.reg [((some 18), (none, (.fa 1 (.tmp 3)))),
         ((some 19), (none, (.ld false (.tmp 18)))),
         ((some 20), (none, (.call f_concession_born [(.tmp 19)]))),
         ((some 21), (none, (.un .not (.tmp 20)))),
         ((some 17), (none, (.mv (.tmp 21))))])
  (.cond (.tmp 17)
         (.seq (.reg [((some 22), (none, (.build [(.inl [(.int .i64 0)]), (.inl (List.replicate 32 (.int .u8 0))), (.inl [(deep [])])]))),
           (none, (none, (.st 34 (.tmp 4) (.tmp 22)))),
           ((some 5), (none, (.mv (.const (.int .i64 1)))))])
  .ret)
         (.seq (.reg [((some 24), (none, (.fa 33 (.tmp 2)))),
           ((some 25), (none, (.ld false (.tmp 24)))),
           ((some 26), (none, (.mkf f_concession_Register_1 [] [(.tmp 3)]))),
           ((some 27), (none, (.call f_slices_ContainsFunc_api_Person_api_Person [(.tmp 25), (.tmp 26)]))),
           ((some 23), (none, (.mv (.tmp 27))))])
  (.cond (.tmp 23)
           (.seq (.reg [((some 28), (none, (.build [(.inl [(.int .i64 0)]), (.inl (List.replicate 32 (.int .u8 0))), (.inl [(deep [])])]))),
             (none, (none, (.st 34 (.tmp 4) (.tmp 28)))),
             ((some 5), (none, (.mv (.const (.int .i64 10)))))])
  .ret)
           (.seq (.reg [((some 30), (none, (.fa 33 (.tmp 2)))),
             ((some 31), (none, (.ld false (.tmp 30)))),
             ((some 32), (none, (.len (.tmp 31)))),
             ((some 33), (none, (.bi .geq (.tmp 32) (.const (.int .i64 64))))),
             ((some 29), (none, (.mv (.tmp 33))))])
  (.cond (.tmp 29)
             (.seq (.reg [((some 34), (none, (.build [(.inl [(.int .i64 0)]), (.inl (List.replicate 32 (.int .u8 0))), (.inl [(deep [])])]))),
               (none, (none, (.st 34 (.tmp 4) (.tmp 34)))),
               ((some 5), (none, (.mv (.const (.int .i64 2)))))])
  .ret)
             .skip)))))))))))
  (concession_RegisterC_j1 t_api_Person f_slices_Clone_api_Person_api_Person)))
/-- macaroon/macaroonref26.Register: 54 slots, results [(.cA 4 34), (.t 5)] -/
def ref26_RegisterC_j1 (t_api_Person : Nat) : PC :=
  (.seq (.ord (.one ((some 45), (none, (.mks t_api_Person 2 true [])))
    (.one ((some 46), (none, (.fa 33 (.tmp 2))))
    (.one ((some 47), (none, (.ld false (.tmp 46))))
    (.one ((some 48), (none, (.app t_api_Person 2 24 45 (.tmp 47))))
    (.one ((some 49), (none, (.ldA 2 (.tmp 3))))
    (.one ((some 50), (none, (.mks t_api_Person 2 false [(.tmp 49)])))
    (.one ((some 51), (none, (.app t_api_Person 2 24 48 (.tmp 50))))
    (.one ((some 52), (none, (.fa 33 (.tmp 2))))
    (.one (none, (none, (.sts (.tmp 52) 51)))
    .done))))))))))
  (.seq (.reg [((some 53), (none, (.ldA 34 (.tmp 2)))),
    (none, (none, (.st 34 (.tmp 4) (.tmp 53)))),
    ((some 5), (none, (.mv (.const (.int .i64 0)))))])
  .ret))
def ref26_RegisterC (t_api_Person : Nat) (f_ref10_Find : Nat) (f_ref26_ConcessionOk : Nat) (f_ref01_Name : Nat) : PC :=
  (.seq (.reg [((some 2), (none, (.box 34 (.tmp 0)))),
    ((some 3), (none, (.box 2 (.tmp 1)))),
    ((some 4), (none, (.alloc [(.int .i64 0), (.int .u8 0), (.int .u8 0), (.int .u8 0), (.int .u8 0), (.int .u8 0), (.int .u8 0), (.int .u8 0), (.int .u8 0), (.int .u8 0), (.int .u8 0), (.int .u8 0), (.int .u8 0), (.int .u8 0), (.int .u8 0), (.int .u8 0), (.int .u8 0), (.int .u8 0), (.int .u8 0), (.int .u8 0), (.int .u8 0), (.int .u8 0), (.int .u8 0), (.int .u8 0), (.int .u8 0), (.int .u8 0), (.int .u8 0), (.int .u8 0), (.int .u8 0), (.int .u8 0), (.int .u8 0), (.int .u8 0), (.int .u8 0), (lin t_api_Person [])]))),
    ((some 5), (none, (.mv (.const (.int .i64 0)))))])
  (.seq (.reg [((some 9), (none, (.ldA 34 (.tmp 2)))),
    ((some 10), (none, (.fa 0 (.tmp 3)))),
    ((some 11), (none, (.ld false (.tmp 10)))),
    ((some 12), (none, (.call f_ref10_Find [(.tmp 9), (.tmp 11)]))),
    ((some 8), (none, (.steal 12))),
    ((some 13), (none, (.extr 8 0))),
    ((some 14), (none, (.extr 8 1))),
    ((some 6), (none, (.alloc [(.string ⟨#[]⟩), (.int .i64 0)]))),
    (none, (none, (.st 2 (.tmp 6) (.tmp 13)))),
    ((some 7), (none, (.mv (.tmp 14))))])
  (.seq (.block 0 (.seq (.reg [((some 16), (none, (.ldA 34 (.tmp 2)))),
     ((some 17), (none, (.call f_ref26_ConcessionOk [(.tmp 16)]))),
     ((some 18), (none, (.un .not (.tmp 17)))),
     ((some 15), (none, (.mv (.tmp 18))))])
  (.cond (.tmp 15)
     (.seq (.reg [((some 19), (none, (.build [(.inl [(.int .i64 0)]), (.inl (List.replicate 32 (.int .u8 0))), (.inl [(deep [])])]))),
       (none, (none, (.st 34 (.tmp 4) (.tmp 19)))),
       ((some 5), (none, (.mv (.const (.int .i64 5)))))])
  .ret)
     (.seq (.reg [((some 21), (none, (.fa 0 (.tmp 3)))),
       ((some 22), (none, (.ld false (.tmp 21)))),
       ((some 23), (none, (.call f_ref01_Name [(.tmp 22)]))),
       ((some 24), (none, (.un .not (.tmp 23)))),
       ((some 20), (none, (.mv (.tmp 24))))])
  (.cond (.tmp 20)
       (.seq (.reg [((some 25), (none, (.build [(.inl [(.int .i64 0)]), (.inl (List.replicate 32 (.int .u8 0))), (.inl [(deep [])])]))),
         (none, (none, (.st 34 (.tmp 4) (.tmp 25)))),
         ((some 5), (none, (.mv (.const (.int .i64 7)))))])
  .ret)
       (.seq (.reg [((some 27), (none, (.fa 1 (.tmp 3)))),
         ((some 28), (none, (.ld false (.tmp 27)))),
         ((some 29), (none, (.bi .lss (.tmp 28) (.const (.int .i64 (-67108864)))))),
         ((some 30), (none, (.mv (.tmp 29)))),
         ((some 31), ((some (30, false)), (.fa 1 (.tmp 3)))),
         ((some 32), ((some (30, false)), (.ld false (.tmp 31)))),
         ((some 33), ((some (30, false)), (.bi .gtr (.tmp 32) (.const (.int .i64 67108864))))),
         ((some 34), (none, (.pick (.tmp 30) (.const (.bool true)) (.tmp 33)))),
         ((some 26), (none, (.mv (.tmp 34))))])
  (.cond (.tmp 26)
         (.seq (.reg [((some 35), (none, (.build [(.inl [(.int .i64 0)]), (.inl (List.replicate 32 (.int .u8 0))), (.inl [(deep [])])]))),
           (none, (none, (.st 34 (.tmp 4) (.tmp 35)))),
           ((some 5), (none, (.mv (.const (.int .i64 1)))))])
  .ret)
         (.seq (.reg [((some 37), (none, (.mv (.tmp 7)))),
           ((some 36), (none, (.mv (.tmp 37))))])
  (.cond (.tmp 36)
           (.seq (.reg [((some 38), (none, (.build [(.inl [(.int .i64 0)]), (.inl (List.replicate 32 (.int .u8 0))), (.inl [(deep [])])]))),
             (none, (none, (.st 34 (.tmp 4) (.tmp 38)))),
             ((some 5), (none, (.mv (.const (.int .i64 10)))))])
  .ret)
           (.seq (.reg [((some 40), (none, (.fa 33 (.tmp 2)))),
             ((some 41), (none, (.ld false (.tmp 40)))),
             ((some 42), (none, (.len (.tmp 41)))),
             ((some 43), (none, (.bi .geq (.tmp 42) (.const (.int .i64 64))))),
             ((some 39), (none, (.mv (.tmp 43))))])
  (.cond (.tmp 39)
             (.seq (.reg [((some 44), (none, (.build [(.inl [(.int .i64 0)]), (.inl (List.replicate 32 (.int .u8 0))), (.inl [(deep [])])]))),
               (none, (none, (.st 34 (.tmp 4) (.tmp 44)))),
               ((some 5), (none, (.mv (.const (.int .i64 2)))))])
  .ret)
             .skip)))))))))))
  (ref26_RegisterC_j1 t_api_Person))))
/-- macaroon/concession.Valid: 62 slots, results [(.t 2)] -/
def concession_ValidC_j1 : PC :=
  (.seq (.block 1 (.seq (.reg [((some 28), (none, (.ixS 2 (.tmp 24) (.tmp 26)))),
       ((some 29), (none, (.ldA 2 (.tmp 28)))),
       ((some 5), (none, (.alloc [(.string ⟨#[]⟩), (.int .i64 0)]))),
       (none, (none, (.st 2 (.tmp 5) (.tmp 29))))])
  (.reg [((some 30), (none, (.mv (.tmp 3)))),
       ((some 31), (none, (.fa 0 (.tmp 5)))),
       ((some 32), (none, (.ld false (.tmp 31)))),
       (none, (none, (.mset 62 (.tmp 30) (.tmp 32) (.const (.bool true)))))])))
  (.reg [((some 33), (none, (.bi .add (.tmp 26) (.const (.int .i64 1))))),
      ((some 26), (none, (.mv (.tmp 33))))]))
def concession_ValidC_j2 (f_concession_name : Nat) (f_concession_born : Nat) : PC :=
  (.seq (.block 3 (.seq (.reg [((some 39), (none, (.ixS 2 (.tmp 35) (.tmp 37)))),
       ((some 40), (none, (.ldA 2 (.tmp 39)))),
       ((some 7), (none, (.alloc [(.string ⟨#[]⟩), (.int .i64 0)]))),
       (none, (none, (.st 2 (.tmp 7) (.tmp 40))))])
  (.seq (.seq (.reg [((some 41), (none, (.fa 0 (.tmp 7)))),
       ((some 42), (none, (.ld false (.tmp 41)))),
       ((some 43), (none, (.call f_concession_name [(.tmp 42)]))),
       ((some 44), (none, (.un .not (.tmp 43)))),
       ((some 45), (none, (.mv (.tmp 44)))),
       ((some 46), ((some (45, false)), (.fa 1 (.tmp 7)))),
       ((some 47), ((some (45, false)), (.ld false (.tmp 46)))),
       ((some 48), ((some (45, false)), (.call f_concession_born [(.tmp 47)]))),
       ((some 49), ((some (45, false)), (.un .not (.tmp 48)))),
       ((some 50), (none, (.pick (.tmp 45) (.const (.bool true)) (.tmp 49)))),
       ((some 51), (none, (.mv (.tmp 50)))),
       ((some 52), ((some (51, false)), (.mv (.tmp 3)))),
       ((some 53), ((some (51, false)), (.fa 0 (.tmp 7)))),
       ((some 54), ((some (51, false)), (.ld false (.tmp 53)))),
       ((some 55), ((some (51, false)), (.mget 62 (.tmp 52) (.tmp 54)))),
       ((some 56), ((some (51, false)), (.un .not (.tmp 55)))),
       ((some 57), (none, (.pick (.tmp 51) (.const (.bool true)) (.tmp 56))))])
  (.cond (.tmp 57)
       (.seq (.reg [((some 2), (none, (.mv (.const (.bool false)))))])
  .ret)
       .skip))
  (.reg [((some 58), (none, (.mv (.tmp 3)))),
       ((some 59), (none, (.fa 0 (.tmp 7)))),
       ((some 60), (none, (.ld false (.tmp 59)))),
       (none, (none, (.mdel 62 (.tmp 58) (.tmp 60))))]))))
  (.reg [((some 61), (none, (.bi .add (.tmp 37) (.const (.int .i64 1))))),
      ((some 37), (none, (.mv (.tmp 61))))]))
def concession_ValidC_j3 (f_concession_name : Nat) (f_concession_born : Nat) : PC :=
  (.seq (.seq (.reg [((some 34), (none, (.fa 33 (.tmp 1)))),
    ((some 35), (none, (.ld false (.tmp 34)))),
    ((some 36), (none, (.len (.tmp 35)))),
    ((some 37), (none, (.mv (.const (.int .i64 0)))))])
  (.block 2 (.loop (.seq (.reg [((some 38), (none, (.bi .lss (.tmp 37) (.tmp 36))))])
  (.seq (.cond (.tmp 38)
      .skip
      (.exit 2))
  (concession_ValidC_j2 f_concession_name f_concession_born))))))
  (.seq (.reg [((some 2), (none, (.mv (.const (.bool true)))))])
  .ret))
def concession_ValidC_j4 (f_concession_name : Nat) (f_concession_born : Nat) : PC :=
  (.seq (.reg [((some 22), (none, (.mkM 62))),
    ((some 3), (none, (.mv (.tmp 22))))])
  (.seq (.seq (.reg [((some 23), (none, (.fa 33 (.tmp 1)))),
    ((some 24), (none, (.ld false (.tmp 23)))),
    ((some 25), (none, (.len (.tmp 24)))),
    ((some 26), (none, (.mv (.const (.int .i64 0)))))])
  (.block 0 (.loop (.seq (.reg [((some 27), (none, (.bi .lss (.tmp 26) (.tmp 25))))])
  (.seq (.cond (.tmp 27)
      .skip
      (.exit 0))
  concession_ValidC_j1)))))
  (concession_ValidC_j3 f_concession_name f_concession_born)))
def concession_ValidC (f_concession_name : Nat) (f_concession_born : Nat) : PC :=
  (.seq (.reg [((some 1), (none, (.box 34 (.tmp 0)))),
    ((some 2), (none, (.mv (.const (.bool false)))))])
  (.seq (.seq (.reg [((some 8), (none, (.fa 0 (.tmp 1)))),
    ((some 9), (none, (.ld false (.tmp 8)))),
    ((some 10), (none, (.bi .lss (.tmp 9) (.const (.int .i64 0))))),
    ((some 11), (none, (.mv (.tmp 10)))),
    ((some 12), ((some (11, false)), (.fa 0 (.tmp 1)))),
    ((some 13), ((some (11, false)), (.ld false (.tmp 12)))),
    ((some 14), ((some (11, false)), (.bi .gtr (.tmp 13) (.const (.int .i64 7))))),
    ((some 15), (none, (.pick (.tmp 11) (.const (.bool true)) (.tmp 14)))),
    ((some 16), (none, (.mv (.tmp 15)))),
    ((some 17), ((some (16, false)), (.fa 33 (.tmp 1)))),
    ((some 18), ((some (16, false)), (.ld false (.tmp 17)))),
    ((some 19), ((some (16, false)), (.len (.tmp 18)))),
    ((some 20), ((some (16, false)), (.bi .gtr (.tmp 19) (.const (.int .i64 64))))),
    ((some 21), (none, (.pick (.tmp 16) (.const (.bool true)) (.tmp 20))))])
  (.cond (.tmp 21)
    (.seq (.reg [((some 2), (none, (.mv (.const (.bool false)))))])
  .ret)
    .skip))
  (concession_ValidC_j4 f_concession_name f_concession_born)))
/-- macaroon/macaroonref26.ConcessionOk: 60 slots, results [(.t 2)] -/
def ref26_ConcessionOkC_j1 : PC :=
  (.seq (.block 3 (.seq (.drw [((some 51), (none, (.fa 33 (.tmp 1)))),
          ((some 52), (none, (.ld false (.tmp 51)))),
          ((some 53), (none, (.mv (.tmp 5)))),
          ((some 54), (none, (.ixS 2 (.tmp 52) (.tmp 53)))),
          ((some 55), (none, (.fa 0 (.tmp 54)))),
          ((some 56), (none, (.ld false (.tmp 55)))),
          ((some 57), (none, (.fa 0 (.tmp 4)))),
          ((some 58), (none, (.ld false (.tmp 57)))),
          ((some 59), (none, (.bi .eql (.tmp 56) (.tmp 58))))])
  (.cond (.tmp 59)
          (.seq (.reg [((some 2), (none, (.mv (.const (.bool false)))))])
  .ret)
          .skip)))
  (.reg [((some 49), (none, (.mv (.tmp 5)))),
         ((some 50), (none, (.bi .add (.tmp 49) (.const (.int .i64 1))))),
         ((some 5), (none, (.mv (.tmp 50))))]))
def ref26_ConcessionOkC_j2 : PC :=
  (.seq (.reg [((some 5), (none, (.mv (.const (.int .i64 0)))))])
  (.block 2 (.loop (.seq (.seq (.reg [((some 46), (none, (.mv (.tmp 5)))),
         ((some 47), (none, (.mv (.tmp 3)))),
         ((some 48), (none, (.bi .lss (.tmp 46) (.tmp 47))))])
  (.cond (.tmp 48)
         .skip
         (.exit 2)))
  ref26_ConcessionOkC_j1))))
def ref26_ConcessionOkC_j3 (f_ref01_Name : Nat) : PC :=
  (.seq (.block 1 (.seq (.reg [((some 27), (none, (.fa 33 (.tmp 1)))),
       ((some 28), (none, (.ld false (.tmp 27)))),
       ((some 29), (none, (.mv (.tmp 3)))),
       ((some 30), (none, (.ixS 2 (.tmp 28) (.tmp 29)))),
       ((some 31), (none, (.ldA 2 (.tmp 30)))),
       ((some 4), (none, (.alloc [(.string ⟨#[]⟩), (.int .i64 0)]))),
       (none, (none, (.st 2 (.tmp 4) (.tmp 31))))])
  (.seq (.seq (.reg [((some 32), (none, (.fa 0 (.tmp 4)))),
       ((some 33), (none, (.ld false (.tmp 32)))),
       ((some 34), (none, (.call f_ref01_Name [(.tmp 33)]))),
       ((some 35), (none, (.un .not (.tmp 34)))),
       ((some 36), (none, (.mv (.tmp 35)))),
       ((some 37), ((some (36, false)), (.fa 1 (.tmp 4)))),
       ((some 38), ((some (36, false)), (.ld false (.tmp 37)))),
       ((some 39), ((some (36, false)), (.bi .lss (.tmp 38) (.const (.int .i64 (-67108864)))))),
       ((some 40), (none, (.pick (.tmp 36) (.const (.bool true)) (.tmp 39)))),
       ((some 41), (none, (.mv (.tmp 40)))),
       ((some 42), ((some (41, false)), (.fa 1 (.tmp 4)))),
       ((some 43), ((some (41, false)), (.ld false (.tmp 42)))),
       ((some 44), ((some (41, false)), (.bi .gtr (.tmp 43) (.const (.int .i64 67108864))))),
       ((some 45), (none, (.pick (.tmp 41) (.const (.bool true)) (.tmp 44))))])
  (.cond (.tmp 45)
       (.seq (.reg [((some 2), (none, (.mv (.const (.bool false)))))])
  .ret)
       .skip))
  ref26_ConcessionOkC_j2)))
  (.reg [((some 25), (none, (.mv (.tmp 3)))),
      ((some 26), (none, (.bi .add (.tmp 25) (.const (.int .i64 1))))),
      ((some 3), (none, (.mv (.tmp 26))))]))
def ref26_ConcessionOkC_j4 (f_ref01_Name : Nat) : PC :=
  (.seq (.seq (.reg [((some 3), (none, (.mv (.const (.int .i64 0)))))])
  (.block 0 (.loop (.seq (.seq (.reg [((some 20), (none, (.mv (.tmp 3)))),
      ((some 21), (none, (.fa 33 (.tmp 1)))),
      ((some 22), (none, (.ld false (.tmp 21)))),
      ((some 23), (none, (.len (.tmp 22)))),
      ((some 24), (none, (.bi .lss (.tmp 20) (.tmp 23))))])
  (.cond (.tmp 24)
      .skip
      (.exit 0)))
  (ref26_ConcessionOkC_j3 f_ref01_Name)))))
  (.seq (.reg [((some 2), (none, (.mv (.const (.bool true)))))])
  .ret))
def ref26_ConcessionOkC (f_ref01_Name : Nat) : PC :=
  (.seq (.reg [((some 1), (none, (.box 34 (.tmp 0)))),
    ((some 2), (none, (.mv (.const (.bool false)))))])
  (.seq (.seq (.reg [((some 6), (none, (.fa 0 (.tmp 1)))),
    ((some 7), (none, (.ld false (.tmp 6)))),
    ((some 8), (none, (.bi .lss (.tmp 7) (.const (.int .i64 0))))),
    ((some 9), (none, (.mv (.tmp 8)))),
    ((some 10), ((some (9, false)), (.fa 0 (.tmp 1)))),
    ((some 11), ((some (9, false)), (.ld false (.tmp 10)))),
    ((some 12), ((some (9, false)), (.bi .gtr (.tmp 11) (.const (.int .i64 7))))),
    ((some 13), (none, (.pick (.tmp 9) (.const (.bool true)) (.tmp 12)))),
    ((some 14), (none, (.mv (.tmp 13)))),
    ((some 15), ((some (14, false)), (.fa 33 (.tmp 1)))),
    ((some 16), ((some (14, false)), (.ld false (.tmp 15)))),
    ((some 17), ((some (14, false)), (.len (.tmp 16)))),
    ((some 18), ((some (14, false)), (.bi .gtr (.tmp 17) (.const (.int .i64 64))))),
    ((some 19), (none, (.pick (.tmp 14) (.const (.bool true)) (.tmp 18))))])
  (.cond (.tmp 19)
    (.seq (.reg [((some 2), (none, (.mv (.const (.bool false)))))])
  .ret)
    .skip))
  (ref26_ConcessionOkC_j4 f_ref01_Name)))
/-- macaroon/discharge.Find: 24 slots, results [(.cA 4 2), (.t 5)] -/
def discharge_FindC_j1 : PC :=
  (.seq (.block 1 (.seq (.reg [((some 13), (none, (.ixS 2 (.tmp 9) (.tmp 11)))),
       ((some 14), (none, (.ldA 2 (.tmp 13)))),
       ((some 7), (none, (.alloc [(.string ⟨#[]⟩), (.int .i64 0)]))),
       (none, (none, (.st 2 (.tmp 7) (.tmp 14))))])
  (.seq (.reg [((some 15), (none, (.ldA 2 (.tmp 7)))),
       ((some 16), (none, (.mv (.tmp 1)))),
       ((some 17), (none, (.fa 1 (.tmp 7)))),
       ((some 18), (none, (.ld false (.tmp 17)))),
       ((some 19), (none, (.build [(.inr ((.tmp 16), 1)), (.inr ((.tmp 18), 1))]))),
       ((some 20), (none, (.eqA false [.string, (.int .i64)] (.tmp 15) (.tmp 19))))])
  (.cond (.tmp 20)
       (.seq (.reg [((some 21), (none, (.ldA 2 (.tmp 7)))),
         (none, (none, (.st 2 (.tmp 4) (.tmp 21)))),
         ((some 5), (none, (.mv (.const (.bool true)))))])
  .ret)
       .skip))))
  (.reg [((some 22), (none, (.bi .add (.tmp 11) (.const (.int .i64 1))))),
      ((some 11), (none, (.mv (.tmp 22))))]))
def discharge_FindC : PC :=
  (.seq (.reg [((some 2), (none, (.box 34 (.tmp 0)))),
    ((some 4), (none, (.alloc [(.string ⟨#[]⟩), (.int .i64 0)]))),
    ((some 5), (none, (.mv (.const (.bool false)))))])
  (.seq (.seq (.reg [((some 8), (none, (.fa 33 (.tmp 2)))),
    ((some 9), (none, (.ld false (.tmp 8)))),
    ((some 10), (none, (.len (.tmp 9)))),
    ((some 11), (none, (.mv (.const (.int .i64 0)))))])
  (.block 0 (.loop (.seq (.reg [((some 12), (none, (.bi .lss (.tmp 11) (.tmp 10))))])
  (.seq (.cond (.tmp 12)
      .skip
      (.exit 0))
  discharge_FindC_j1)))))
  (.seq (.reg [((some 23), (none, (.build [(.inl [(.string ⟨#[]⟩)]), (.inl [(.int .i64 0)])]))),
    (none, (none, (.st 2 (.tmp 4) (.tmp 23)))),
    ((some 5), (none, (.mv (.const (.bool false)))))])
  .ret)))
/-- (*macaroon/macaroonmade.Deck).Persons: 34 slots, results [(.t 2)] -/
def made_Deck_PersonsC_j1 (t_api_Person : Nat) (f_made_Deck_Next : Nat) : PC :=
  (.seq (.block 1 (.ord (.one ((some 20), (none, (.steal 3)))
       (.one ((some 21), (none, (.mv (.tmp 4))))
       (.one ((some 22), (none, (.mv (.tmp 5))))
       (.one ((some 23), (none, (.ixS 1 (.tmp 21) (.tmp 22))))
       (.one ((some 25), (none, (.mv (.tmp 0))))
       (.alt (.one ((some 24), (none, (.ld false (.tmp 23))))
        (.one ((some 26), (none, (.call f_made_Deck_Next [(.tmp 25), (.const (.int .i64 100))])))
        (.one ((some 27), (none, (.un .neg (.tmp 26))))
        (.one ((some 28), (none, (.bi .mul (.tmp 27) (.const (.int .i64 365)))))
        (.one ((some 29), (none, (.bi .mul (.tmp 28) (.const (.int .i64 1440)))))
        (.one ((some 30), (none, (.build [(.inr ((.tmp 24), 1)), (.inr ((.tmp 29), 1))])))
        (.one ((some 31), (none, (.mks t_api_Person 2 false [(.tmp 30)])))
        (.one ((some 32), (none, (.app t_api_Person 2 24 20 (.tmp 31))))
        (.one ((some 3), (none, (.steal 32)))
        .done)))))))))
       (.one ((some 26), (none, (.call f_made_Deck_Next [(.tmp 25), (.const (.int .i64 100))])))
        (.one ((some 24), (none, (.ld false (.tmp 23))))
        (.one ((some 27), (none, (.un .neg (.tmp 26))))
        (.one ((some 28), (none, (.bi .mul (.tmp 27) (.const (.int .i64 365)))))
        (.one ((some 29), (none, (.bi .mul (.tmp 28) (.const (.int .i64 1440)))))
        (.one ((some 30), (none, (.build [(.inr ((.tmp 24), 1)), (.inr ((.tmp 29), 1))])))
        (.one ((some 31), (none, (.mks t_api_Person 2 false [(.tmp 30)])))
        (.one ((some 32), (none, (.app t_api_Person 2 24 20 (.tmp 31))))
        (.one ((some 3), (none, (.steal 32)))
        .done)))))))))))))))))
  (.reg [((some 18), (none, (.mv (.tmp 5)))),
      ((some 19), (none, (.bi .add (.tmp 18) (.const (.int .i64 1))))),
      ((some 5), (none, (.mv (.tmp 19))))]))
def made_Deck_PersonsC (t_api_Person : Nat) (t_string : Nat) (f_made_Deck_Next : Nat) : PC :=
  (.seq (.reg [((some 2), (none, (.cnil t_api_Person)))])
  (.seq (.reg [((some 3), (none, (.cnil t_api_Person)))])
  (.seq (.reg [((some 6), (none, (.mks t_string 1 true [(.const (.string ⟨#[97, 110, 110]⟩)), (.const (.string ⟨#[98, 111, 98]⟩)), (.const (.string ⟨#[99, 105, 100]⟩)), (.const (.string ⟨#[122, 111, 101]⟩)), (.const (.string ⟨#[97]⟩))]))),
    ((some 4), (none, (.steal 6)))])
  (.seq (.seq (.reg [((some 5), (none, (.mv (.const (.int .i64 0)))))])
  (.block 0 (.loop (.seq (.seq (.reg [((some 7), (none, (.mv (.tmp 5)))),
      ((some 8), (none, (.mv (.tmp 4)))),
      ((some 9), (none, (.len (.tmp 8)))),
      ((some 10), (none, (.bi .lss (.tmp 7) (.tmp 9)))),
      ((some 11), (none, (.mv (.tmp 10)))),
      ((some 12), ((some (11, true)), (.mv (.tmp 5)))),
      ((some 13), ((some (11, true)), (.mv (.tmp 0)))),
      ((some 14), ((some (11, true)), (.call f_made_Deck_Next [(.tmp 13), (.const (.int .i64 5))]))),
      ((some 15), ((some (11, true)), (.bi .add (.const (.int .i64 1)) (.tmp 14)))),
      ((some 16), ((some (11, true)), (.bi .lss (.tmp 12) (.tmp 15)))),
      ((some 17), (none, (.pick (.tmp 11) (.tmp 16) (.const (.bool false)))))])
  (.cond (.tmp 17)
      .skip
      (.exit 0)))
  (made_Deck_PersonsC_j1 t_api_Person f_made_Deck_Next)))))
  (.seq (.reg [((some 33), (none, (.steal 3))),
    ((some 2), (none, (.steal 33)))])
  .ret)))))
/-- macaroon/concession.name: 6 slots, results [(.t 2)] -/
def concession_nameC (f_predicate_Valid : Nat) : PC :=
  (.seq (.reg [((some 2), (none, (.mv (.const (.bool false)))))])
  (.seq (.reg [((some 3), (none, (.mv (.tmp 0)))),
    ((some 4), (none, (.build [(.inr ((.const (.int .i64 6)), 1)), (.inl [(.int .u64 0)]), (.inl [(.int .i64 0)]), (.inl [(.int .i64 0)]), (.inr ((.tmp 3), 1)), (.inl [(.int .i64 0)])]))),
    ((some 5), (none, (.call f_predicate_Valid [(.tmp 4)]))),
    ((some 2), (none, (.mv (.tmp 5))))])
  .ret))
/-- macaroon/concession.born: 9 slots, results [(.t 2)] -/
def concession_bornC : PC :=
  (.seq (.reg [((some 2), (none, (.mv (.const (.bool false)))))])
  (.seq (.reg [((some 3), (none, (.mv (.tmp 0)))),
    ((some 4), (none, (.bi .geq (.tmp 3) (.const (.int .i64 (-67108864)))))),
    ((some 5), (none, (.mv (.tmp 4)))),
    ((some 6), ((some (5, true)), (.mv (.tmp 0)))),
    ((some 7), ((some (5, true)), (.bi .leq (.tmp 6) (.const (.int .i64 67108864))))),
    ((some 8), (none, (.pick (.tmp 5) (.tmp 7) (.const (.bool false))))),
    ((some 2), (none, (.mv (.tmp 8))))])
  .ret))
/-- slices.ContainsFunc[[]macaroon/api.Person,macaroon/api.Person]: 9 slots, results [(.t 4)] -/
def slices_ContainsFunc_api_Person_api_PersonC (f_slices_IndexFunc_api_Person_api_Person : Nat) : PC :=
  (.seq (.reg [((some 4), (none, (.mv (.const (.bool false)))))])
  (.seq (.reg [((some 5), (none, (.mv (.tmp 0)))),
    ((some 6), (none, (.mv (.tmp 1)))),
    ((some 7), (none, (.call f_slices_IndexFunc_api_Person_api_Person [(.tmp 5), (.tmp 6)]))),
    ((some 8), (none, (.bi .geq (.tmp 7) (.const (.int .i64 0))))),
    ((some 4), (none, (.mv (.tmp 8))))])
  .ret))
/-- macaroon/concession.Register$1: 9 slots, results [(.t 3)] -/
def concession_Register_1C : PC :=
  (.seq (.reg [((some 2), (none, (.box 2 (.tmp 0)))),
    ((some 3), (none, (.mv (.const (.bool false)))))])
  (.seq (.reg [((some 4), (none, (.fa 0 (.tmp 2)))),
    ((some 5), (none, (.ld false (.tmp 4)))),
    ((some 6), (none, (.fa 0 (.tmp 1)))),
    ((some 7), (none, (.ld false (.tmp 6)))),
    ((some 8), (none, (.bi .eql (.tmp 5) (.tmp 7)))),
    ((some 3), (none, (.mv (.tmp 8))))])
  .ret))
/-- slices.Clone[[]macaroon/api.Person,macaroon/api.Person]: 8 slots, results [(.t 2)] -/
def slices_Clone_api_Person_api_PersonC (t_api_Person : Nat) : PC :=
  (.seq (.reg [((some 2), (none, (.cnil t_api_Person)))])
  (.seq (.seq (.reg [((some 3), (none, (.mv (.tmp 0)))),
    ((some 4), (none, (.nilS false (.tmp 3))))])
  (.cond (.tmp 4)
    (.seq (.reg [((some 2), (none, (.cnil t_api_Person)))])
  .ret)
    .skip))
  (.seq (.reg [((some 5), (none, (.mks t_api_Person 2 true []))),
    ((some 6), (none, (.mv (.tmp 0)))),
    ((some 7), (none, (.app t_api_Person 2 24 5 (.tmp 6)))),
    ((some 2), (none, (.steal 7)))])
  .ret)))
/-- macaroon/macaroonref10.Find: 28 slots, results [(.cA 4 2), (.t 5)] -/
def ref10_FindC_j1 : PC :=
  (.seq (.block 1 (.seq (.reg [((some 14), (none, (.fa 33 (.tmp 2)))),
       ((some 15), (none, (.ld false (.tmp 14)))),
       ((some 16), (none, (.mv (.tmp 6)))),
       ((some 17), (none, (.ixS 2 (.tmp 15) (.tmp 16)))),
       ((some 18), (none, (.fa 0 (.tmp 17)))),
       ((some 19), (none, (.ld false (.tmp 18)))),
       ((some 20), (none, (.mv (.tmp 1)))),
       ((some 21), (none, (.bi .eql (.tmp 19) (.tmp 20))))])
  (.cond (.tmp 21)
       (.seq (.reg [((some 22), (none, (.fa 33 (.tmp 2)))),
         ((some 23), (none, (.ld false (.tmp 22)))),
         ((some 24), (none, (.mv (.tmp 6)))),
         ((some 25), (none, (.ixS 2 (.tmp 23) (.tmp 24)))),
         ((some 26), (none, (.ldA 2 (.tmp 25)))),
         (none, (none, (.st 2 (.tmp 4) (.tmp 26)))),
         ((some 5), (none, (.mv (.const (.bool true)))))])
  .ret)
       .skip)))
  (.reg [((some 12), (none, (.mv (.tmp 6)))),
      ((some 13), (none, (.bi .add (.tmp 12) (.const (.int .i64 1))))),
      ((some 6), (none, (.mv (.tmp 13))))]))
def ref10_FindC : PC :=
  (.seq (.reg [((some 2), (none, (.box 34 (.tmp 0)))),
    ((some 4), (none, (.alloc [(.string ⟨#[]⟩), (.int .i64 0)]))),
    ((some 5), (none, (.mv (.const (.bool false)))))])
  (.seq (.seq (.reg [((some 6), (none, (.mv (.const (.int .i64 0)))))])
  (.block 0 (.loop (.seq (.seq (.reg [((some 7), (none, (.mv (.tmp 6)))),
      ((some 8), (none, (.fa 33 (.tmp 2)))),
      ((some 9), (none, (.ld false (.tmp 8)))),
      ((some 10), (none, (.len (.tmp 9)))),
      ((some 11), (none, (.bi .lss (.tmp 7) (.tmp 10))))])
  (.cond (.tmp 11)
      .skip
      (.exit 0)))
  ref10_FindC_j1))))
  (.seq (.reg [((some 27), (none, (.build [(.inl [(.string ⟨#[]⟩)]), (.inl [(.int .i64 0)])]))),
    (none, (none, (.st 2 (.tmp 4) (.tmp 27)))),
    ((some 5), (none, (.mv (.const (.bool false)))))])
  .ret)))
/-- slices.IndexFunc[[]macaroon/api.Person,macaroon/api.Person]: 19 slots, results [(.t 4)] -/
def slices_IndexFunc_api_Person_api_PersonC_j1 : PC :=
  (.seq (.block 1 (.seq (.reg [((some 10), (none, (.mv (.tmp 8)))),
       ((some 5), (none, (.mv (.tmp 10))))])
  (.seq (.reg [((some 11), (none, (.mv (.tmp 1)))),
       ((some 12), (none, (.mv (.tmp 0)))),
       ((some 13), (none, (.mv (.tmp 5)))),
       ((some 14), (none, (.ixS 2 (.tmp 12) (.tmp 13)))),
       ((some 15), (none, (.ldA 2 (.tmp 14)))),
       ((some 16), (none, (.callv (.tmp 11) [(.tmp 15)])))])
  (.cond (.tmp 16)
       (.seq (.reg [((some 17), (none, (.mv (.tmp 5)))),
         ((some 4), (none, (.mv (.tmp 17))))])
  .ret)
       .skip))))
  (.reg [((some 18), (none, (.bi .add (.tmp 8) (.const (.int .i64 1))))),
      ((some 8), (none, (.mv (.tmp 18))))]))
def slices_IndexFunc_api_Person_api_PersonC : PC :=
  (.seq (.reg [((some 4), (none, (.mv (.const (.int .i64 0)))))])
  (.seq (.seq (.reg [((some 6), (none, (.mv (.tmp 0)))),
    ((some 7), (none, (.len (.tmp 6)))),
    ((some 8), (none, (.mv (.const (.int .i64 0)))))])
  (.block 0 (.loop (.seq (.reg [((some 9), (none, (.bi .lss (.tmp 8) (.tmp 7))))])
  (.seq (.cond (.tmp 9)
      .skip
      (.exit 0))
  slices_IndexFunc_api_Person_api_PersonC_j1)))))
  (.seq (.reg [((some 4), (none, (.mv (.const (.int .i64 (-1))))))])
  .ret)))
end Go.PE
namespace Go.PE
open Go
attribute [simp] ba_beq
structure Per where
  name : ByteArray
  born : Int
  deriving DecidableEq
def Per.cells (p : Per) : List Value := [.string p.name, .int .i64 p.born]
def Per.v (p : Per) : Value := ag p.cells
@[simp] theorem Per.len (p : Per) : p.cells.length = 2 := _root_.id rfl
@[simp] theorem Per.dg1s (p : Per) : p.cells.map dg1 = p.cells := _root_.id rfl
@[simp] theorem Per.dgv (p : Per) : dg p.v = p.v := _root_.id rfl
@[simp] theorem Per.dg1v (p : Per) : dg1 p.v = p.v := _root_.id rfl
@[simp] theorem Per.dgTv (p : Per) : dgT p.v = p.v := _root_.id rfl
@[simp] theorem Per.cellsOf (p : Per) : PE.cellsOf p.v = some p.cells := _root_.id rfl
@[simp] theorem Per.lcv (p : Per) : lc p.v = p.cells := _root_.id rfl
@[simp] theorem Per.take2 (p : Per) : p.cells.take 2 = p.cells := _root_.id rfl
@[simp] theorem Per.get0 (p : Per) : p.cells[0]? = some (.string p.name) := _root_.id rfl
@[simp] theorem Per.get1 (p : Per) : p.cells[1]? = some (.int .i64 p.born) := _root_.id rfl
@[simp] theorem Per.getE0 (p : Per) (h : 0 < p.cells.length) : p.cells[0] = .string p.name := _root_.id rfl
@[simp] theorem Per.getE1 (p : Per) (h : 1 < p.cells.length) : p.cells[1] = .int .i64 p.born := _root_.id rfl
theorem Per.ag (p : Per) : PE.ag p.cells = p.v := rfl
theorem Per.ag' (n : ByteArray) (b : Int) : PE.ag [.string n, .int .i64 b] = (⟨n, b⟩ : Per).v := rfl
@[simp] theorem Per.fits (p : Per) : fitsL [.string, .int .i64] p.cells = true := _root_.id rfl
@[simp] theorem Per.eq (p r : Per) : eqL p.cells r.cells = decide (p = r) := by
  obtain ⟨n, b⟩ := p
  obtain ⟨n', b'⟩ := r
  simp only [Per.cells, eqL, eqC, ba_beq, Bool.and_true, Per.mk.injEq]
  by_cases h1 : n = n' <;> by_cases h2 : b = b' <;> simp [h1, h2]
theorem elem_per {l : List Per} {n : Int} (h0 : 0 ≤ n) (hn : n.toNat < l.length) : elemAt (l.map Per.v) n 2 = some (dptr 0 l[n.toNat].cells) := elemAt_map h0 hn rfl (by simp)
theorem getEl_of {l : List Value} {i : Nat} {v : Value} (h : l[i]? = some v) (hi : i < l.length) : l[i] = v := by
  rw [List.getElem?_eq_getElem hi] at h; exact Option.some.inj h
structure Con where
  party : Int
  key : Tag
  ps : List Per
def Con.cells (c : Con) : List Value := [.int .i64 c.party] ++ c.key.cells ++ [deep (c.ps.map Per.v)]
def Con.v (c : Con) : Value := ag c.cells
@[simp] theorem Con.len (c : Con) : c.cells.length = 34 := by simp [Con.cells]
@[simp] theorem Con.dg1s (c : Con) : c.cells.map dg1 = c.cells := by simp [Con.cells]
@[simp] theorem Con.dgv (c : Con) : dg c.v = c.v := _root_.id rfl
@[simp] theorem Con.dg1v (p : Con) : dg1 p.v = p.v := _root_.id rfl
@[simp] theorem Con.dgTv (p : Con) : dgT p.v = p.v := _root_.id rfl
@[simp] theorem Con.cellsOf (c : Con) : PE.cellsOf c.v = some c.cells := _root_.id rfl
@[simp] theorem Con.take34 (c : Con) : c.cells.take 34 = c.cells := List.take_of_length_le (by simp)
@[simp] theorem Con.get0 (c : Con) : c.cells[0]? = some (.int .i64 c.party) := _root_.id rfl
@[simp] theorem Con.getE0 (c : Con) (h : 0 < c.cells.length) : c.cells[0] = .int .i64 c.party := _root_.id rfl
@[simp] theorem Con.get33 (c : Con) : c.cells[33]? = some (deep (c.ps.map Per.v)) := by
  have : c.cells = ([.int .i64 c.party] ++ c.key.cells) ++ [deep (c.ps.map Per.v)] := rfl
  rw [this, List.getElem?_append_right (by simp)]; simp
@[simp] theorem Con.getE33 (c : Con) (h : 33 < c.cells.length) : c.cells[33] = deep (c.ps.map Per.v) := getEl_of c.get33 h
theorem Con.ag (c : Con) : PE.ag c.cells = c.v := rfl
@[simp] theorem Con.key32 (c : Con) : (c.cells.drop 1).take 32 = c.key.cells := by
  have : c.cells.drop 1 = c.key.cells ++ [deep (c.ps.map Per.v)] := rfl
  rw [this, List.take_append_of_le_length (by simp), List.take_of_length_le (by simp)]

/-! is the list of names one of different names? -/
def bornV (n : Int) : Bool := decide (-67108864 ≤ n) && decide (n ≤ 67108864)
def perOK (p : Per) : Bool := nameV p.name && bornV p.born
def Per.wf (p : Per) : Prop := (p.name.size : Int) ≤ 9223372036854775807
def psF : List Per → List Per → Bool
  | _, [] => true
  | pre, p :: r => perOK p && pre.all (fun d => decide (d.name ≠ p.name)) && psF (pre ++ [p]) r
def conOK (c : Con) : Bool := decide (0 ≤ c.party) && decide (c.party ≤ 7) && decide (c.ps.length ≤ 64) && psF [] c.ps
theorem psF_step {l : List Per} {i : Nat} (hi : i < l.length) : psF (l.take i) (l.drop i) = (perOK l[i] && (l.take i).all (fun d => decide (d.name ≠ l[i].name)) && psF (l.take (i + 1)) (l.drop (i + 1))) := by
  rw [List.drop_eq_getElem_cons hi, psF, List.take_succ_eq_append_getElem hi]

/-! maps -/
theorem getM_setM (k k' : ByteArray) (v : Bool) : ∀ es, getM k (setM k' v es) = if k = k' then v else getM k es
  | [] => by simp [setM, getM]
  | (a, b) :: r => by
    unfold setM
    by_cases h : k' = a
    · subst h
      by_cases h2 : k = k'
      · simp [getM, h2]
      · simp [getM, h2]
    · by_cases h2 : k = a
      · have : ¬ k = k' := fun e => h (by rw [← e, h2])
        have h3 : ¬ a = k' := fun e => h e.symm
        simp [h, getM, h2, h3]
      · simp [h, getM, h2, getM_setM k k' v r]
def keysM (es : List (ByteArray × Bool)) : List ByteArray := es.map (·.1)
theorem keys_setM (k : ByteArray) (v : Bool) : ∀ es, keysM (setM k v es) = if k ∈ keysM es then keysM es else keysM es ++ [k]
  | [] => by simp [setM, keysM]
  | (a, b) :: r => by
    unfold setM
    by_cases h : k = a
    · simp [h, keysM]
    · simp only [h, if_false]
      have ih := keys_setM k v r
      simp only [keysM, List.map_cons, List.mem_cons, h, false_or] at ih ⊢
      rw [ih]; split <;> simp_all
theorem nodup_setM {k : ByteArray} {v : Bool} {es : List (ByteArray × Bool)} (h : (keysM es).Nodup) : (keysM (setM k v es)).Nodup := by
  rw [keys_setM]
  split
  · exact h
  · rename_i hk
    rw [List.nodup_append]
    refine ⟨h, by simp, fun a ha b hb => ?_⟩
    simp at hb; subst hb
    exact fun e => hk (e ▸ ha)
theorem getM_none {k : ByteArray} : ∀ {es : List (ByteArray × Bool)}, k ∉ keysM es → getM k es = false
  | [], _ => rfl
  | (a, b) :: r, h => by
    simp only [keysM, List.map_cons, List.mem_cons, not_or] at h
    unfold getM
    rw [if_neg h.1]; exact getM_none h.2
theorem keys_delM (k : ByteArray) : ∀ es : List (ByteArray × Bool), (keysM es).Nodup → (keysM (delM k es)).Nodup ∧ ∀ x, x ∈ keysM (delM k es) ↔ x ∈ keysM es ∧ x ≠ k
  | [], _ => by simp [delM, keysM]
  | (a, b) :: r, h => by
    simp only [keysM, List.map_cons, List.nodup_cons] at h
    obtain ⟨i1, i2⟩ := keys_delM k r h.2
    unfold delM
    by_cases hk : k = a
    · subst hk
      simp only [if_true]
      refine ⟨h.2, fun x => ?_⟩
      show x ∈ keysM r ↔ x ∈ keysM ((k, b) :: r) ∧ x ≠ k
      simp only [keysM, List.map_cons, List.mem_cons]
      constructor
      · intro hx; exact ⟨.inr hx, fun e => h.1 (e ▸ hx)⟩
      · rintro ⟨hx | hx, hne⟩
        · exact absurd hx hne
        · exact hx
    · simp only [hk, if_false]
      refine ⟨?_, fun x => ?_⟩
      · show (a :: keysM (delM k r)).Nodup
        rw [List.nodup_cons]
        exact ⟨fun hx => h.1 ((i2 a).1 hx).1, i1⟩
      · show x ∈ a :: keysM (delM k r) ↔ x ∈ a :: keysM r ∧ x ≠ k
        simp only [List.mem_cons, i2]
        constructor
        · rintro (rfl | ⟨h1, h2⟩)
          · exact ⟨.inl rfl, fun e => hk e.symm⟩
          · exact ⟨.inr h1, h2⟩
        · rintro ⟨rfl | h1, h2⟩
          · exact .inl rfl
          · exact .inr ⟨h1, h2⟩
theorem getM_delM {k k' : ByteArray} : ∀ {es : List (ByteArray × Bool)}, (keysM es).Nodup → getM k (delM k' es) = if k = k' then false else getM k es
  | [], _ => by simp [delM, getM]
  | (a, b) :: r, h => by
    simp only [keysM, List.map_cons, List.nodup_cons] at h
    unfold delM
    by_cases hk : k' = a
    · subst hk
      simp only [if_true]
      by_cases h2 : k = k'
      · subst h2; rw [if_pos rfl]; exact getM_none h.1
      · rw [if_neg h2]; simp [getM, h2]
    · simp only [hk, if_false]
      by_cases h2 : k = a
      · have : ¬ k = k' := fun e => hk (by rw [← e, h2])
        rw [if_neg this]; simp [getM, h2]
      · simp only [getM, h2, if_false]; exact getM_delM h.2
/-- what the map of the names says when i of them have been taken out -/
def MpAt (l : List Per) (i : Nat) (es : List (ByteArray × Bool)) : Prop := (keysM es).Nodup ∧ ∀ k, getM k es = (l.any (fun p => decide (p.name = k)) && !((l.take i).any fun p => decide (p.name = k)))
/-- .. and when i of them have been put in -/
def MpIn (l : List Per) (i : Nat) (es : List (ByteArray × Bool)) : Prop := (keysM es).Nodup ∧ ∀ k, getM k es = (l.take i).any fun p => decide (p.name = k)
theorem MpIn.step {l : List Per} {i : Nat} {es : List (ByteArray × Bool)} (h : MpIn l i es) (hi : i < l.length) : MpIn l (i + 1) (setM l[i].name true es) := by
  refine ⟨nodup_setM h.1, fun k => ?_⟩
  rw [getM_setM, h.2, List.take_succ_eq_append_getElem hi, List.any_append]
  by_cases hk : k = l[i].name
  · subst hk; simp
  · have : ¬ l[i].name = k := fun e => hk e.symm
    simp [hk, this]
theorem MpIn.done {l : List Per} {es : List (ByteArray × Bool)} (h : MpIn l l.length es) : MpAt l 0 es := ⟨h.1, fun k => by rw [h.2, List.take_length]; simp⟩
theorem MpAt.step {l : List Per} {i : Nat} {es : List (ByteArray × Bool)} (h : MpAt l i es) (hi : i < l.length) : MpAt l (i + 1) (delM l[i].name es) := by
  refine ⟨(keys_delM _ _ h.1).1, fun k => ?_⟩
  rw [getM_delM h.1, h.2, List.take_succ_eq_append_getElem hi, List.any_append]
  by_cases hk : k = l[i].name
  · subst hk; simp
  · have : ¬ l[i].name = k := fun e => hk e.symm
    simp [hk, this]
theorem MpAt.get {l : List Per} {i : Nat} {es : List (ByteArray × Bool)} (h : MpAt l i es) (hi : i < l.length) : getM l[i].name es = (l.take i).all fun d => decide (d.name ≠ l[i].name) := by
  rw [h.2]
  have h1 : l.any (fun p => decide (p.name = l[i].name)) = true := List.any_eq_true.2 ⟨l[i], List.getElem_mem _, by simp⟩
  rw [h1, Bool.true_and]
  induction l.take i with
  | nil => rfl
  | cons a r ih => simp only [List.any_cons, List.all_cons, Bool.not_or, ih]; simp
end Go.PE
namespace Go.PE
open Go
def CNameOK (P : Program) (f g : Nat) : Prop := ∀ (b : ByteArray) (_ : (b.size : Int) ≤ 9223372036854775807) (H : Nat → Option (List Value)) (nx : Nat), H g = some bitsRow → g < nx →
    PCalls P f [.string b] H nx (fun _ => False) (fun r H' _ => r = .bool (nameV b) ∧ H' = H)
theorem cname_ok {P : Program} {f g m : Nat} (hc : compFn P f = some (6, concession_nameC m, [.t 2])) (hm : PValidOK P m g) : CNameOK P f g := by
  intro b hb H nx hg hgn
  refine PCalls_of hc (by simp) fun hw => ?_
  have hv : (⟨6, 0, 0, 0, b, 0⟩ : Pred).valid = nameV b := by simp [Pred.valid]
  simp [concession_nameC]
  refine wCall_eq (Q := fun r => r = .bool (nameV b)) (by have := hm ⟨6, 0, 0, 0, b, 0⟩ hb H nx hg hgn; rw [hv] at this; exact this) fun r n1 hr hn1 => ?_
  subst hr
  simp
  exact wF_own hw (by simp) ⟨rfl, rfl⟩
def BornOK (P : Program) (f : Nat) : Prop := ∀ (n : Int) (H : Nat → Option (List Value)) (nx : Nat), PCalls P f [.int .i64 n] H nx (fun _ => False) (fun r H' _ => r = .bool (bornV n) ∧ H' = H)
theorem born_ok {P : Program} {f : Nat} (hc : compFn P f = some (9, concession_bornC, [.t 2])) : BornOK P f := by
  intro n H nx
  refine PCalls_of hc (by simp) fun hw => ?_
  by_cases h : -67108864 ≤ n
  · simp [concession_bornC, h]
    exact wF_own hw (by simp) (by simp [bornV, h])
  · simp [concession_bornC, h]
    exact wF_own hw (by simp) (by simp [bornV, h])
def CnOK (P : Program) (f g : Nat) : Prop := ∀ (c : Con), (∀ p ∈ c.ps, p.wf) → c.ps.length ≤ maxLen → ∀ (H : Nat → Option (List Value)) (nx : Nat), H g = some bitsRow → g < nx →
    PCalls P f [c.v] H nx (fun _ => False) (fun r H' _ => r = .bool (conOK c) ∧ H' = H)
theorem cnvalid_ok {P : Program} {f g m b : Nat} (hc : compFn P f = some (62, concession_ValidC m b, [.t 2])) (hm : CNameOK P m g) (hb : BornOK P b) : CnOK P f g := by
  intro c hwf hlen H nx hg hgn
  refine PCalls_of hc (by simp) fun hw => ?_
  have hmx : (maxLen : Int) = 9223372036854775807 := rfl
  have hg1 : ¬ g = nx := by omega
  by_cases h1 : 0 ≤ c.party
  case neg =>
    simp [concession_ValidC, show c.party < 0 by omega]
    exact wF_own hw (by simp) (by simp [conOK, h1])
  by_cases h2 : c.party ≤ 7
  case neg =>
    simp [concession_ValidC, show ¬ c.party < 0 by omega, show 7 < c.party by omega]
    exact wF_own hw (by simp) (by simp [conOK, h2])
  by_cases h3 : c.ps.length ≤ 64
  case neg =>
    simp [concession_ValidC, show ¬ c.party < 0 by omega, show ¬ 7 < c.party by omega, show (64 : Int) < c.ps.length by omega]
    exact wF_own hw (by simp) (by simp [conOK, h3])
  have hok : conOK c = psF [] c.ps := by simp [conOK, h1, h2, h3]
  simp [concession_ValidC, concession_ValidC_j4, show ¬ c.party < 0 by omega, show ¬ 7 < c.party by omega, show ¬ (64 : Int) < c.ps.length by omega]
  refine mkM_of fun mb => ?_
  have hm1 : ∀ k, k < 62 → ¬ k = 62 + mb := fun k hk => by omega
  have hm2 : ∀ k, k < 62 → ¬ 62 + mb = k := fun k hk => by omega
  simp [hm1, hm2]
  refine wpc_loop _ _ _ _ _ _ (fun s => ∃ (i : Nat) (es : List (ByteArray × Bool)), i ≤ c.ps.length ∧ s.t 1 = ptr nx 0 ∧ s.t 3 = .map (some mb) ∧ s.t (62 + mb) = mpe es ∧ MpIn c.ps i es ∧ s.t 24 = deep (c.ps.map Per.v) ∧ s.t 25 = .int .i64 c.ps.length ∧ s.t 26 = .int .i64 i ∧ nx < s.nx ∧ Own nx H s.H ∧ s.H nx = some c.cells)
    (fun s => match s.t 26 with | .int _ i => (c.ps.length - i).toNat | _ => 0) _ ⟨0, [], by omega, by simp [hm1], by simp, by simp [hm2], ⟨by simp [keysM], by simp [getM]⟩, by simp, by simp, by simp, by simp, by simp, by simp⟩ ?_
  rintro ⟨T, H', nx'⟩ ⟨i, es, hi, e1, e3, em, hmp, e24, e25, e26, hnx, hown, hbox⟩
  simp only at e1 e3 em e24 e25 e26 hnx hown hbox
  simp [e25, e26]
  refine wB_of (fun hlt => ?_) (fun hlt => ?_)
  · simp at hlt
    have he := elem_per (l := c.ps) (n := (i : Int)) (by omega) (by simpa using hlt)
    simp at he
    have n1 : ¬ nx' = nx := by omega
    have n2 : ¬ nx = nx' := by omega
    simp [concession_ValidC_j1, e1, e3, e24, e26, he, n1, n2, hm1, hm2]
    refine ⟨by omega, mset_of (b := mb) (es := es) (kb := c.ps[i].name) (vb := true) (by simp) (by simp [em, hm1, hm2]) (by simp) (by simp) ?_⟩
    simp [e26, hm1, hm2]
    rw [w64 (x := (i : Int) + 1) (by omega) (by omega)]
    refine kLoop_nrm _ _ _ _ (Sub_refl _ _) ⟨i + 1, by omega, by simp [e1, hm1], by simp [e3, hm1], setM c.ps[i].name true es, by simp [hm2], hmp.step hlt, by simp [e24, hm1], by simp [e25, hm1], by simp, by simp; omega, by simp [show nx ≤ nx' by omega, hown], by simp [n2, hbox]⟩ (by simp; omega)
  · simp at hlt
    have : i = c.ps.length := by omega
    subst this
    have hmp2 := hmp.done
    clear hmp
    simp [concession_ValidC_j3, e1, e3, hbox]
    refine wpc_loop _ _ _ _ _ _ (fun s => ∃ (i : Nat) (es : List (ByteArray × Bool)), i ≤ c.ps.length ∧ s.t 3 = .map (some mb) ∧ s.t (62 + mb) = mpe es ∧ MpAt c.ps i es ∧ s.t 35 = deep (c.ps.map Per.v) ∧ s.t 36 = .int .i64 c.ps.length ∧ s.t 37 = .int .i64 i ∧ nx < s.nx ∧ Own nx H s.H ∧ conOK c = psF (c.ps.take i) (c.ps.drop i))
      (fun s => match s.t 37 with | .int _ i => (c.ps.length - i).toNat | _ => 0) _ ⟨0, es, by omega, by simp [e3], by simp [em, hm2], hmp2, by simp, by simp, by simp, by simp; omega, by simpa using hown, by simp [hok]⟩ ?_
    clear e1 e3 em e24 e25 e26 hnx hown hbox hmp2 hlt hi
    rintro ⟨T, H', nx'⟩ ⟨i, es, hi, e3, em, hmp, e35, e36, e37, hnx, hown, hall⟩
    simp only at e3 em e35 e36 e37 hnx hown
    simp [e36, e37]
    refine wB_of (fun hlt => ?_) (fun hlt => ?_)
    · simp at hlt
      have he := elem_per (l := c.ps) (n := (i : Int)) (by omega) (by simpa using hlt)
      simp at he
      have hst := psF_step hlt
      have hget := hmp.get hlt
      have hgH : H' g = some bitsRow := by rw [hown g hgn]; exact hg
      have n3 : ¬ g = nx' := by omega
      simp [concession_ValidC_j2, e3, e35, e37, he]
      refine ⟨by omega, ?_⟩
      refine wCall_eq (Q := fun r => r = .bool (nameV c.ps[i].name)) (hm _ (hwf _ (List.getElem_mem _)) _ _ (by simp [n3, hgH]) (by simp; omega)) fun r n4 hr hn4 => ?_
      subst hr
      simp at hn4
      cases hA : nameV c.ps[i].name with
      | false =>
        simp
        exact wF_own hw (by simp [show nx ≤ nx' by omega, hown]) ⟨by rw [hall, hst]; simp [perOK, hA], rfl⟩
      | true =>
        simp
        refine wCall_eq (Q := fun r => r = .bool (bornV c.ps[i].born)) (hb _ _ _) fun r n5 hr hn5 => ?_
        subst hr
        simp at hn5
        cases hB : bornV c.ps[i].born with
        | false =>
          simp
          exact wF_own hw (by simp [show nx ≤ nx' by omega, hown]) ⟨by rw [hall, hst]; simp [perOK, hA, hB], rfl⟩
        | true =>
          simp [e3]
          refine mget_of (b := mb) (es := es) (kb := c.ps[i].name) (by simp) (by simp [em, hm1, hm2]) (by simp) ?_
          rw [hget]
          cases hC : (c.ps.take i).all fun d => decide (d.name ≠ c.ps[i].name) with
          | false =>
            simp
            exact wF_own hw (by simp [show nx ≤ nx' by omega, hown]) ⟨by rw [hall, hst, hC]; simp, rfl⟩
          | true =>
            simp [e3, e37]
            refine mdel_of (b := mb) (es := es) (kb := c.ps[i].name) (by simp) (by simp [em, hm1, hm2]) (by simp) ?_
            simp [e37, hm1, hm2]
            rw [w64 (x := (i : Int) + 1) (by omega) (by omega)]
            refine kLoop_nrm _ _ _ _ (Sub_refl _ _) ⟨i + 1, by omega, by simp [e3, hm1], delM c.ps[i].name es, by simp [hm2], hmp.step hlt, by simp [e35, hm1], by simp [e36, hm1], by simp, by simp; omega, by simp [show nx ≤ nx' by omega, hown], by rw [hall, hst, hC]; simp [perOK, hA, hB]⟩ (by simp; omega)
    · simp at hlt
      have : i = c.ps.length := by omega
      subst this
      rw [List.drop_length] at hall
      exact wF_own hw (by simpa using hown) ⟨by rw [hall]; rfl, rfl⟩
end Go.PE
namespace Go.PE
open Go
def RCnOK (P : Program) (f : Nat) : Prop := ∀ (c : Con), (∀ p ∈ c.ps, p.wf) → c.ps.length ≤ maxLen → ∀ (H : Nat → Option (List Value)) (nx : Nat),
    PCalls P f [c.v] H nx (fun _ => False) (fun r H' _ => r = .bool (conOK c) ∧ H' = H)
theorem rcnvalid_ok {P : Program} {f m : Nat} (hc : compFn P f = some (60, ref26_ConcessionOkC m, [.t 2])) (hm : NameOK P m) : RCnOK P f := by
  intro c hwf hlen H nx
  refine PCalls_of hc (by simp) fun hw => ?_
  have hmx : (maxLen : Int) = 9223372036854775807 := rfl
  by_cases h1 : 0 ≤ c.party
  case neg =>
    simp [ref26_ConcessionOkC, show c.party < 0 by omega]
    exact wF_own hw (by simp) (by simp [conOK, h1])
  by_cases h2 : c.party ≤ 7
  case neg =>
    simp [ref26_ConcessionOkC, show ¬ c.party < 0 by omega, show 7 < c.party by omega]
    exact wF_own hw (by simp) (by simp [conOK, h2])
  by_cases h3 : c.ps.length ≤ 64
  case neg =>
    simp [ref26_ConcessionOkC, show ¬ c.party < 0 by omega, show ¬ 7 < c.party by omega, show (64 : Int) < c.ps.length by omega]
    exact wF_own hw (by simp) (by simp [conOK, h3])
  have hok : conOK c = psF [] c.ps := by simp [conOK, h1, h2, h3]
  simp [ref26_ConcessionOkC, ref26_ConcessionOkC_j4, show ¬ c.party < 0 by omega, show ¬ 7 < c.party by omega, show ¬ (64 : Int) < c.ps.length by omega]
  refine wpc_loop _ _ _ _ _ _ (fun s => ∃ (i : Nat), i ≤ c.ps.length ∧ s.t 1 = ptr nx 0 ∧ s.t 3 = .int .i64 i ∧ nx < s.nx ∧ Own nx H s.H ∧ s.H nx = some c.cells ∧ conOK c = psF (c.ps.take i) (c.ps.drop i))
    (fun s => match s.t 3 with | .int _ i => (c.ps.length - i).toNat | _ => 0) _ ⟨0, by omega, by simp, by simp, by simp, by simp, by simp, by simp [hok]⟩ ?_
  rintro ⟨T, H', nx'⟩ ⟨i, hi, e1, e3, hnx, hown, hbox, hall⟩
  simp only at e1 e3 hnx hown hbox
  simp [e1, e3, hbox]
  refine wB_of (fun hlt => ?_) (fun hlt => ?_)
  · simp at hlt
    have he := elem_per (l := c.ps) (n := (i : Int)) (by omega) (by simpa using hlt)
    simp at he
    have hst := psF_step hlt
    have n1 : ¬ nx' = nx := by omega
    have n2 : ¬ nx = nx' := by omega
    simp [ref26_ConcessionOkC_j3, e1, e3, hbox, he, n1, n2]
    refine ⟨by omega, ?_⟩
    refine wCall_eq (Q := fun r => r = .bool (nameV c.ps[i].name)) (hm _ (hwf _ (List.getElem_mem _)) _ _) fun r n4 hr hn4 => ?_
    subst hr
    simp at hn4
    cases hA : nameV c.ps[i].name with
    | false =>
      simp
      exact wF_own hw (by simp [show nx ≤ nx' by omega, hown]) ⟨by rw [hall, hst]; simp [perOK, hA], rfl⟩
    | true =>
      by_cases b1 : -67108864 ≤ c.ps[i].born
      case neg =>
        simp [show c.ps[i].born < -67108864 by omega]
        exact wF_own hw (by simp [show nx ≤ nx' by omega, hown]) ⟨by rw [hall, hst]; simp [perOK, bornV, b1], rfl⟩
      by_cases b2 : c.ps[i].born ≤ 67108864
      case neg =>
        simp [show ¬ c.ps[i].born < -67108864 by omega, show 67108864 < c.ps[i].born by omega]
        exact wF_own hw (by simp [show nx ≤ nx' by omega, hown]) ⟨by rw [hall, hst]; simp [perOK, bornV, b2], rfl⟩
      have hB : bornV c.ps[i].born = true := by simp [bornV, b1, b2]
      simp [show ¬ c.ps[i].born < -67108864 by omega, show ¬ 67108864 < c.ps[i].born by omega, ref26_ConcessionOkC_j2]
      refine wpc_loop _ _ _ _ _ _ (fun s => ∃ (j : Nat), j ≤ i ∧ s.t 1 = ptr nx 0 ∧ s.t 3 = .int .i64 i ∧ s.t 4 = ptr nx' 0 ∧ s.t 5 = .int .i64 j ∧ nx' < s.nx ∧ Own nx H s.H ∧ s.H nx = some c.cells ∧ s.H nx' = some c.ps[i].cells ∧ ∀ (k : Nat) d, k < j → c.ps[k]? = some d → d.name ≠ c.ps[i].name)
        (fun s => match s.t 5 with | .int _ j => (i - j).toNat | _ => 0) _ ⟨0, by omega, by simp [e1], by simp [e3], by simp, by simp, by simp; omega, by simp [show nx ≤ nx' by omega, hown], by simp [n2, hbox], by simp, by intro k d hk; omega⟩ ?_
      clear e1 e3 hbox hown hn4
      rintro ⟨T, H', nx2⟩ ⟨j, hj, e1, e3, e4, e5, hnx2, hown, hbox, hbox2, hne⟩
      simp only at e1 e3 e4 e5 hnx2 hown hbox hbox2
      simp [e3, e5]
      refine wB_of (fun hjt => ?_) (fun hjt => ?_)
      · simp at hjt
        have hej := elem_per (l := c.ps) (n := (j : Int)) (by omega) (by simp; omega)
        simp at hej
        simp [ref26_ConcessionOkC_j1, e1, e4, e5, hbox, hbox2, hej]
        by_cases hd : c.ps[j].name = c.ps[i].name
        · simp [hd]
          refine wF_own hw (by simpa using hown) ⟨?_, rfl⟩
          rw [hall, hst]
          have : ((c.ps.take i).all fun d => decide (d.name ≠ c.ps[i].name)) = false := by
            rw [List.all_eq_false]
            exact ⟨c.ps[j], List.mem_iff_getElem.2 ⟨j, by simp; omega, by simp⟩, by simp [hd]⟩
          rw [this]; simp
        · simp [hd, e5]
          rw [w64 (x := (j : Int) + 1) (by omega) (by omega)]
          refine kLoop_nrm _ _ _ _ (Sub_refl _ _) ⟨j + 1, by omega, by simp [e1], by simp [e3], by simp [e4], by simp, by simpa using hnx2, by simpa using hown, by simp [hbox], by simp [hbox2], ?_⟩ (by simp; omega)
          intro k d hk hkd
          by_cases hkj : k = j
          · subst hkj
            rw [List.getElem?_eq_getElem (by omega)] at hkd
            obtain rfl := Option.some.inj hkd
            exact hd
          · exact hne k d (by omega) hkd
      · simp at hjt
        have : j = i := by omega
        subst this
        have hC : ((c.ps.take j).all fun d => decide (d.name ≠ c.ps[j].name)) = true := by
          rw [List.all_eq_true]
          intro d hd
          obtain ⟨k, hk, rfl⟩ := List.mem_iff_getElem.1 hd
          have hk' : k < j := by simp at hk; omega
          simp only [List.getElem_take]
          exact decide_eq_true (hne k _ hk' (List.getElem?_eq_getElem (by omega)))
        simp [e3]
        rw [w64 (x := (j : Int) + 1) (by omega) (by omega)]
        refine kLoop_nrm _ _ _ _ (Sub_refl _ _) ⟨j + 1, by omega, by simp [e1], by simp, by simp; omega, by simpa using hown, by simp [hbox], by rw [hall, hst, hC]; simp [perOK, hA, hB]⟩ (by simp; omega)
  · simp at hlt
    have : i = c.ps.length := by omega
    subst this
    rw [List.drop_length] at hall
    exact wF_own hw (by simpa using hown) ⟨by rw [hall]; rfl, rfl⟩

/-! functions as values -/
def ixF {α : Type} (p : α → Bool) : List α → Nat → Int
  | [], _ => -1
  | x :: r, i => if p x then i else ixF p r (i + 1)
theorem ixF_step {α : Type} {p : α → Bool} {l : List α} {i : Nat} (hi : i < l.length) : ixF p (l.drop i) i = if p l[i] then (i : Int) else ixF p (l.drop (i + 1)) (i + 1) := by
  rw [List.drop_eq_getElem_cons hi]; rfl
theorem ixF_any {α : Type} {p : α → Bool} : ∀ {l : List α} {i : Nat}, decide (0 ≤ ixF p l i) = l.any p
  | [], _ => rfl
  | x :: r, i => by
    unfold ixF
    by_cases h : p x = true
    · simp [h]
    · simp only [h, if_false, List.any_cons, Bool.false_or, Bool.false_eq_true]
      exact ixF_any
/-- a function value that answers for each of a list's elements -/
def FnB {α : Type} (P : Program) (v : α → Value) (f : FuncId) (caps : List Value) (H : Nat → Option (List Value)) (nx : Nat) (p : α → Bool) (l : List α) : Prop :=
  okFn P f = true ∧ ∀ x ∈ l, ∀ nx', nx ≤ nx' → PCalls P f ([v x] ++ caps) H nx' (fun _ => False) (fun r H' _ => r = .bool (p x) ∧ H' = H)
def IxPerOK (P : Program) (f : Nat) : Prop := ∀ (l : List Per) (g : FuncId) (caps : List Value) (p : Per → Bool) (H : Nat → Option (List Value)) (nx : Nat), l.length ≤ maxLen → FnB P Per.v g caps H nx p l →
    PCalls P f [deep (l.map Per.v), clo g [] caps] H nx (fun _ => False) (fun r H' _ => r = .int .i64 (ixF p l 0) ∧ H' = H)
theorem ixPer_ok {P : Program} {f : Nat} (hc : compFn P f = some (19, slices_IndexFunc_api_Person_api_PersonC, [.t 4])) : IxPerOK P f := by
  intro l g caps p H nx hlen ⟨hfn, hf⟩
  refine PCalls_of hc (by simp) fun hw => ?_
  have hmx : (maxLen : Int) = 9223372036854775807 := rfl
  simp [slices_IndexFunc_api_Person_api_PersonC]
  refine wpc_loop _ _ _ _ _ _ (fun s => ∃ i : Nat, i ≤ l.length ∧ s.t 0 = deep (l.map Per.v) ∧ s.t 1 = clo g [] caps ∧ s.t 7 = .int .i64 l.length ∧ s.t 8 = .int .i64 i ∧ s.H = H ∧ nx ≤ s.nx ∧ ixF p l 0 = ixF p (l.drop i) i)
    (fun s => match s.t 8 with | .int _ i => (l.length - i).toNat | _ => 0) _ ⟨0, by omega, by simp, by simp, by simp, by simp, rfl, by simp, by simp⟩ ?_
  rintro ⟨T, H', nx'⟩ ⟨i, hi, e0, e1, e7, e8, rfl, hnx, hall⟩
  simp only at e0 e1 e7 e8 hnx
  simp [e7, e8]
  refine wB_of (fun hlt => ?_) (fun hlt => ?_)
  · simp at hlt
    have he := elem_per (l := l) (n := (i : Int)) (by omega) (by simpa using hlt)
    simp at he
    have hst := ixF_step (p := p) hlt
    simp [slices_IndexFunc_api_Person_api_PersonC_j1, e0, e1, e8, he, hfn, Per.ag]
    refine wCall_eq (Q := fun r => r = .bool (p l[i])) (hf _ (List.getElem_mem _) _ hnx) fun r n4 hr hn4 => ?_
    subst hr
    cases hp : p l[i] with
    | true =>
      simp
      exact wF_own hw (by simp) ⟨by rw [hall, hst, hp]; rfl, rfl⟩
    | false =>
      simp [e8]
      rw [w64 (x := (i : Int) + 1) (by omega) (by omega)]
      simp at hn4
      refine kLoop_nrm _ _ _ _ (Sub_refl _ _) ⟨i + 1, by omega, by simp [e0], by simp [e1], by simp [e7], by simp, rfl, by simp; omega, by rw [hall, hst, hp]; rfl⟩ (by simp; omega)
  · simp at hlt
    have : i = l.length := by omega
    subst this
    rw [List.drop_length] at hall
    exact wF_own hw (by simp) ⟨by rw [hall]; rfl, rfl⟩
def CfPerOK (P : Program) (f : Nat) : Prop := ∀ (l : List Per) (g : FuncId) (caps : List Value) (p : Per → Bool) (H : Nat → Option (List Value)) (nx : Nat), l.length ≤ maxLen → FnB P Per.v g caps H nx p l →
    PCalls P f [deep (l.map Per.v), clo g [] caps] H nx (fun _ => False) (fun r H' _ => r = .bool (l.any p) ∧ H' = H)
theorem cfPer_ok {P : Program} {f x : Nat} (hc : compFn P f = some (9, slices_ContainsFunc_api_Person_api_PersonC x, [.t 4])) (hx : IxPerOK P x) : CfPerOK P f := by
  intro l g caps p H nx hlen hf
  refine PCalls_of hc (by simp) fun hw => ?_
  simp [slices_ContainsFunc_api_Person_api_PersonC]
  refine wCall_eq (Q := fun r => r = .int .i64 (ixF p l 0)) (hx l g caps p H nx hlen hf) fun r n4 hr hn4 => ?_
  subst hr
  simp
  exact wF_own hw (by simp) ⟨by rw [ixF_any]; rfl, rfl⟩
def ClonePerOK (P : Program) (f e : Nat) : Prop := ∀ (l : List Per) (H : Nat → Option (List Value)) (nx : Nat), l.length ≤ 1000000 →
    PCalls P f [deep (l.map Per.v)] H nx (fun _ => False) (fun r H' _ => r = lin e (l.map Per.v) ∧ H' = H)
theorem clonePer_ok {P : Program} {f t : Nat} (hc : compFn P f = some (8, slices_Clone_api_Person_api_PersonC t, [.t 2])) : ClonePerOK P f t := by
  intro l H nx hlen
  refine PCalls_of hc (by simp) fun hw => ?_
  have hmx : (maxLen : Int) = 9223372036854775807 := rfl
  simp [slices_Clone_api_Person_api_PersonC]
  refine nilS_deep (xs := l.map Per.v) (by simp) (fun hn => ?_) ?_
  · have : l = [] := by simpa using hn
    subst this
    simp
    exact wF_own hw (by simp) ⟨rfl, rfl⟩
  · simp
    refine ⟨by omega, by omega, ?_⟩
    exact wF_own hw (by simp) ⟨rfl, rfl⟩
theorem regFn_ok {P : Program} {f : Nat} (hc : compFn P f = some (9, concession_Register_1C, [.t 3])) (x p : Per) (k : Nat) (H : Nat → Option (List Value)) (nx : Nat) (hk : H k = some p.cells) (hkn : k < nx) :
    PCalls P f [x.v, ptr k 0] H nx (fun _ => False) (fun r H' _ => r = .bool (decide (x.name = p.name)) ∧ H' = H) := by
  refine PCalls_of hc (by simp) fun hw => ?_
  have n1 : ¬ k = nx := by omega
  simp [concession_Register_1C, n1, hk]
  exact wF_own hw (by simp) ⟨by simp, rfl⟩
end Go.PE
