/- Receivers: the search for a place among the kept items. Receivers: copies of items; a function of the model's own: do two slices overlap? A function of the model's own: a list that is only read, and a slice of a box, do not overlap. Receivers: slices.Insert of one item, where there is room. Receivers: Keep. Receivers: Keep, as specified. Receivers: Ready, Applied; are receivers the same? Receivers: the sanity check. Receivers: made. ReceiverSteps: the walk. ReceiverSteps, the walk: DONE. ReceiverOrder: the plain law. ReceiverOrder: the walk. Items and receivers among the arguments, with their sizes. -/
import Derived.Test.YtgipgpopmpcddaaPartG
import Derived.Test.YtgipgpopmpcddaaPartF
import Derived.Laws.Externs
import Derived.Test.YtgipgpopmpcddaaPartD
import Derived.Test.YtgipgpopmpcddaaPartE
set_option linter.all false
namespace Go.PE
open Go
def inI64 (n : Int) : Prop := -9223372036854775808 ≤ n ∧ n < 9223372036854775808
def Itm.rng (x : Itm) : Prop := inI64 x.place
theorem wrap0 {a b : Int} (ha : inI64 a) (hb : inI64 b) : IntKind.i64.wrap (a - b) = 0 ↔ a = b := by
  unfold inI64 at ha hb
  rw [IntKind.wrap_i64]; omega
theorem half_i {i j : Int} (h0 : 0 ≤ i) (h1 : i < j) (h2 : j < 4611686018427387904) : IntKind.i64.wrap ((IntKind.u64.wrap (i + j)).fdiv (2 ^ min 1 IntKind.u64.bits)) = (i + j) / 2 := by
  rw [show (2 : Int) ^ min 1 IntKind.u64.bits = 2 from rfl]
  rw [IntKind.wrap_u64, IntKind.wrap_i64, Int.fdiv_eq_ediv_of_nonneg _ (by omega)]
  omega
theorem keep1_ok {P : Program} {f : Nat} (hc : compFn P f = some (9, receiver_Keep_1C, [.t 4])) (x : Itm) (p : Int) (H : Nat → Option (List Value)) (nx : Nat) :
    PCalls P f [x.v, .int .i64 p] H nx (fun _ => False) (fun r H' _ => r = .int .i64 (IntKind.i64.wrap (x.place - p)) ∧ H' = H) := by
  refine PCalls_of hc (by simp) fun hw => ?_
  simp [receiver_Keep_1C]
  exact wF_own hw (by simp) ⟨rfl, rfl⟩
/-- what the search says -/
structure BsR (l : List Itm) (p : Int) (i : Nat) (b : Bool) : Prop where
  le : i ≤ l.length
  fnd : b = true → ∃ h : i < l.length, l[i].place = p
  nfd : b = false → ∀ h : i < l.length, l[i].place ≠ p
  cut : (∀ x ∈ l, IntKind.i64.wrap (x.place - p) = x.place - p) → (∀ (j k : Nat) (hj : j < l.length) (hk : k < l.length), j < k → l[j].place < l[k].place) → (∀ (j : Nat) (hj : j < l.length), j < i → l[j].place < p) ∧ ∀ (j : Nat) (hj : j < l.length), i ≤ j → p ≤ l[j].place
def bsV (l : List Itm) (p : Int) (r : Value) : Prop := ∃ i b, r = tup [.int .i64 (i : Nat), .bool b] ∧ BsR l p i b
def BsOK (P : Program) (f g : Nat) : Prop := ∀ (l : List Itm) (p : Int), l.length < 4611686018427387904 → inI64 p → (∀ x ∈ l, x.rng) → ∀ (H : Nat → Option (List Value)) (nx : Nat),
    PCalls P f [deep (l.map Itm.v), .int .i64 p, clo g [] []] H nx (fun _ => False) (fun r H' _ => bsV l p r ∧ H' = H)
theorem bs_ok {P : Program} {f g : Nat} (hc : compFn P f = some (49, slices_BinarySearchFunc_api_Item_api_Item_intC, [.t 6, .t 7])) (hg : compFn P g = some (9, receiver_Keep_1C, [.t 4])) (hfn : okFn P g = true) : BsOK P f g := by
  intro l p hlen hp hr H nx
  refine PCalls_of hc (by simp) fun hw => ?_
  have hmx : (maxLen : Int) = 9223372036854775807 := rfl
  simp [slices_BinarySearchFunc_api_Item_api_Item_intC]
  obtain ⟨I, hI⟩ : ∃ I : PS → Prop, ∀ s, I s ↔ (∃ (i j : Nat), i ≤ j ∧ j ≤ l.length ∧ s.t 0 = deep (l.map Itm.v) ∧ s.t 1 = .int .i64 p ∧ s.t 2 = clo g [] [] ∧ s.t 8 = .int .i64 l.length ∧ s.t 9 = .int .i64 i ∧ s.t 10 = .int .i64 j ∧ s.H = H ∧ nx ≤ s.nx ∧
      ((∀ x ∈ l, IntKind.i64.wrap (x.place - p) = x.place - p) → (∀ (j k : Nat) (hj : j < l.length) (hk : k < l.length), j < k → l[j].place < l[k].place) → (∀ (k : Nat) (hk : k < l.length), k < i → l[k].place < p) ∧ ∀ (k : Nat) (hk : k < l.length), j ≤ k → p ≤ l[k].place)) := ⟨_, fun _ => Iff.rfl⟩
  refine wpc_loop _ _ _ _ _ _ I (fun s => match s.t 9, s.t 10 with | .int _ i, .int _ j => (j - i).toNat | _, _ => 0) _ ((hI _).2 ⟨0, l.length, by omega, by omega, by simp, by simp, by simp, by simp, by simp, by simp, rfl, by simp, fun _ _ => ⟨fun k hk h => by omega, fun k hk h => by omega⟩⟩) ?_
  rintro ⟨T, H', nx'⟩ hs
  obtain ⟨i, j, hij, hj, e0, e1, e2, e8, e9, e10, hH', hnx, hinv⟩ := (hI _).1 hs
  simp only at e0 e1 e2 e8 e9 e10 hH' hnx
  subst hH'
  simp [e9, e10]
  refine wB_of (fun hlt => ?_) (fun hlt => ?_)
  · simp at hlt
    have hh := half_i (i := i) (j := j) (by omega) (by omega) (by omega)
    have hhn : ((i : Int) + j) / 2 = ((i + j) / 2 : Nat) := by omega
    rw [hhn] at hh
    generalize hm : (i + j) / 2 = m at hh
    have hmi : i ≤ m := by omega
    have hmj : m < j := by omega
    have hml : m < l.length := by omega
    have he := elem_itm (l := l) (n := (m : Int)) (by omega) (by simpa using hml)
    simp at he
    have hw0 := w64 (x := (i : Int) + j) (by omega) (by omega)
    have hw1 := w64 (x := (m : Int) + 1) (by omega) (by omega)
    simp [slices_BinarySearchFunc_api_Item_api_Item_intC_j1, e0, e1, e2, e9, e10, hw0, hh, he, hfn, Itm.ag]
    refine wCall_eq (Q := fun r => r = .int .i64 (IntKind.i64.wrap (l[m].place - p))) (keep1_ok hg l[m] p _ _) fun r n4 hr' hn4 => ?_
    subst hr'
    simp
    refine wB_of (fun hc1 => ?_) (fun hc1 => ?_)
    · simp at hc1
      simp [hw1]
      refine kLoop_nrm _ _ _ _ (Sub_refl _ _) ((hI _).2 ⟨m + 1, j, by omega, by omega, by simp [e0], by simp [e1], by simp [e2], by simp [e8], by simp, by simp [e10], rfl, by simp at hn4 ⊢; omega, fun h1 h2 => ?_⟩) (by simp [e10]; omega)
      obtain ⟨a1, a2⟩ := hinv h1 h2
      rw [h1 _ (List.getElem_mem hml)] at hc1
      refine ⟨fun k hk hkm => ?_, a2⟩
      rcases Nat.lt_or_ge k m with h | h
      · have := h2 k m hk hml h; omega
      · obtain rfl : k = m := by omega
        omega
    · simp at hc1
      refine kLoop_nrm _ _ _ _ (Sub_refl _ _) ((hI _).2 ⟨i, m, by omega, by omega, by simp [e0], by simp [e1], by simp [e2], by simp [e8], by simp [e9], by simp, rfl, by simp at hn4 ⊢; omega, fun h1 h2 => ?_⟩) (by simp [e9]; omega)
      obtain ⟨a1, a2⟩ := hinv h1 h2
      rw [h1 _ (List.getElem_mem hml)] at hc1
      refine ⟨a1, fun k hk hkm => ?_⟩
      rcases Nat.lt_or_ge m k with h | h
      · have := h2 m k hml hk h; omega
      · obtain rfl : k = m := by omega
        omega
  · simp at hlt
    obtain rfl : i = j := by omega
    by_cases hil : i < l.length
    case neg =>
      simp [slices_BinarySearchFunc_api_Item_api_Item_intC_j2, e0, e1, e2, e8, e9, show ¬ (i : Int) < l.length by omega]
      exact wF_own hw (by simp) ⟨⟨i, false, rfl, ⟨hj, fun h => (by cases h), fun _ h => (by omega), hinv⟩⟩, rfl⟩
    have he := elem_itm (l := l) (n := (i : Int)) (by omega) (by simpa using hil)
    simp at he
    simp [slices_BinarySearchFunc_api_Item_api_Item_intC_j2, e0, e1, e2, e8, e9, hil, he, hfn, Itm.ag]
    refine wCall_eq (Q := fun r => r = .int .i64 (IntKind.i64.wrap (l[i].place - p))) (keep1_ok hg l[i] p _ _) fun r n4 hr' hn4 => ?_
    subst hr'
    simp
    have hz := wrap0 (hr _ (List.getElem_mem hil)) hp
    refine wF_own hw (by simp) ⟨⟨i, _, rfl, ⟨hj, fun h => ⟨hil, hz.1 (by simpa using h)⟩, fun h _ e => ?_, hinv⟩⟩, rfl⟩
    simp at h
    exact h (hz.2 e)
end Go.PE
namespace Go.PE
open Go
def Itm.fin (x : Itm) : Prop := x.bx.length ≤ 140737488351232
theorem cloneIt_ok {P : Program} {f t : Nat} (hc : compFnX P [t] f = some (8, slices_Clone_api_Item_api_Item_BC, [.t 2])) : CloneBOK P f itEl := by
  intro l H nx hlen _
  refine PCalls_ofX hc (by simp) fun hw => ?_
  have hmx : (maxLen : Int) = 9223372036854775807 := rfl
  have hnil : Bx itEl nx H H nx (ns []) [] := Bx.nil (fun k _ => rfl) (Nat.le_refl _)
  simp [slices_Clone_api_Item_api_Item_BC]
  refine nilS_deep (xs := l.map Itm.v) (by simp; rfl) (fun hn => ?_) ?_
  · have : l = [] := by simpa using hn
    subst this
    simp
    exact wF_of hnil
  · simp [slices_Clone_api_Item_api_Item_BC_j1]
    refine Bx.app (E := itEl) (l := l) (m := []) hnil rfl (by simp [itEl]) (by simp; omega) (by simp; omega) fun v' H3 nx3 hB3 => ?_
    simp
    exact wF_of (by simpa using hB3)
def CopyItOK (P : Program) (f : Nat) : Prop := ∀ (l : List Itm) (H : Nat → Option (List Value)) (nx : Nat), l.length ≤ 1000000 → (∀ x ∈ l, x.fin) →
    PCalls P f [deep (l.map Itm.v)] H nx (fun _ => False) (fun r H' _ => asL Itm.v l r ∧ H' = H)
theorem copyIt_ok {P : Program} {f t e cl bc : Nat} (hc : compFnX P [t] f = some (24, receiver_Copied_BC cl bc, [.t 2])) (hcl : CloneBOK P cl itEl) (hbc : BCloneOK P bc e) : CopyItOK P f := by
  intro l H nx hlen hby
  refine PCalls_ofX hc (by simp) fun hw => ?_
  have hmx : (maxLen : Int) = 9223372036854775807 := rfl
  simp [receiver_Copied_BC]
  refine wCallB_of (wCall_le (hcl l H nx hlen hw) fun r H1 n1 hB hn1 hown => ?_)
  have hlv := hB.len
  simp [hlv]
  refine wpc_loop _ _ _ _ _ _ (fun s => ∃ i : Nat, i ≤ l.length ∧ s.t 3 = r ∧ s.t 8 = .int .i64 l.length ∧ s.t 9 = .int .i64 i ∧ n1 ≤ s.nx ∧ s.H = H1)
    (fun s => match s.t 9 with | .int _ i => (l.length - i).toNat | _ => 0) _ ⟨0, by omega, by simp, by simp, by simp, by simp, rfl⟩ ?_
  rintro ⟨T, H', nx'⟩ ⟨i, hi, e3, e8, e9, hnx, rfl⟩
  simp only at e3 e8 e9 hnx
  simp [e8, e9]
  refine wB_of (fun hlt => ?_) (fun hlt => ?_)
  · simp at hlt
    obtain ⟨k, cap, rest, rfl, a2, a3, a4, a5, a6, a7⟩ := hB.at (by omega)
    replace a4 : H' k = some (l.flatMap Itm.cells ++ rest) := a4
    have hg := fl_get Itm.cells 68 Itm.len rest (i := i) (o := 35) hlt (by omega)
    generalize l.flatMap Itm.cells ++ rest = row at a4 hg
    have hw1 := w64 (x := (i : Int) + 1) (by omega) (by omega)
    have hb := hby l[i] (List.getElem_mem _)
    have stp : ∀ {x : List Int} {d : Option Nat} {s : PS} {K : PS → Prop}, x.length ≤ 140737488351232 → (∀ n5, s.nx ≤ n5 → K ⟨(s.putO d (lin e (x.map (.int .u8)))).t, s.H, n5⟩) → wCallB (PCalls P) (fun _ => False) nx bc [bytesV x] d s K :=
      fun {x d s K} hx hK => wCallB_of (wCall_eq (Q := fun r => r = lin e (x.map (.int .u8))) (hbc x s.H s.nx hx) fun r n5 hr hn5 => by subst hr; exact hK n5 hn5)
    rw [Itm.get35] at hg
    have hr8 : row.take (i * 68 + 35) ++ deep (l[i].bx.map (Value.int .u8)) :: row.drop (i * 68 + 35 + 1) = row := row_same hg
    have hle8 : i * 68 + 35 + 1 ≤ row.length := by have := (List.getElem?_eq_some_iff.1 hg).1; omega
    have hup : upd H' k (some row) = H' := upd_self _ _ _ a4
    simp [receiver_Copied_BC_j1, e3, e9, a4, hlt, hg]
    refine stp hb fun n5 hn5 => ?_
    dsimp only at hn5
    simp [e3, e9, a4, hlt, hg, hw1, hr8, hle8, hup]
    refine ⟨a2, ?_⟩
    refine kLoop_nrm _ _ _ _ (Sub_refl _ _) ⟨i + 1, by omega, by simp [e3], by simp [e8], by simp, by simp; omega, rfl⟩ (by simp; omega)
  · simp [e3]
    exact Bx.fin1 (hB.mo hnx) hw fun v' h => ⟨h, rfl⟩
end Go.PE
namespace Go.PE
open Go
/-- a call of a function of the model's own, in a walk -/
def wXc (P : Program) (T : Nat → Prop) (n0 f : Nat) (args : List Value) (d : Option Nat) (s : PS) (K : PS → Prop) : Prop := ∃ p, XC P T n0 f args s.H s.nx p ∧ plain p = true ∧ K (s.putO d p)
@[simp] theorem step_xcall (C : Known) (P : Program) (T : Nat → Prop) (n0 : Nat) (d : Option Nat) (s : PS) (K : PS → Prop) (f : Nat) (args : List Operand) : PE.step C P T n0 d (.xcall f args) s K = wXc P T n0 f (args.map s.ev) d s K := _root_.id rfl
theorem wXc_of {P : Program} {T : Nat → Prop} {n0 f : Nat} {args : List Value} {d : Option Nat} {s : PS} {K : PS → Prop} {p : Value} (h : XC P T n0 f args s.H s.nx p) (hp : plain p = true) (hK : K (s.putO d p)) : wXc P T n0 f args d s K := ⟨p, h, hp, hK⟩
theorem run_overlaps_two {P : Program} (w : World) (tS tR e : TypeId) (ht : P.underlying tS = some (.slice e)) (size : Nat) (hz : ∀ w, (Go.sizeOf e).run P w = .ok size w)
    (a b : Addr) (la ca lb cb : Nat) (hne : a.block ≠ b.block) (tA tB : TypeId) (kA kB : Nat)
    (hsa : w.shape? a.block = some (tA, kA)) (hsb : w.shape? b.block = some (tB, kB)) (hkB : kB ≠ 0) (hkA : kA ≠ 0)
    (hfb : ∀ o, w.frozen? { block := b.block, off := o } = false) (hfb' : w.frozen? b = false) :
    (Extern.SlicesOverlaps.overlaps #[tS, tS] #[tR] #[.slice (some a) la ca, .slice (some b) lb cb]).run P w = .ok (.bool false) w := by
  have hnb : (a.block != b.block) = true := by simpa using hne
  have hnb' : (a.block == b.block) = false := by simpa using hne
  change Sem.run P (α := Value) (do
    let some t := (#[tS, tS] : Array TypeId)[0]? | stuck "slices.overlaps: no parameter types"
    let .slice elem ← underlying t | stuck "slices.overlaps: slice type expected"
    let size ← sizeOf elem
    match (some a : Option Addr), (some b : Option Addr) with
    | some a, some b =>
      if la = 0 ∨ lb = 0 ∨ size = 0 then pure (Value.bool false)
      else if a.block != b.block && (← frozen a) && (← frozen b) then unsupported .addressObserved
      else do
        if a.block != b.block then do
          noView a; noView b
          if ← mayBeOne a b then return Value.bool ((← choose _) == 1)
        pure (Value.bool (a.block == b.block && a.off < b.off + lb * size && b.off < a.off + la * size))
    | _, _ => pure (Value.bool false)) w = _
  by_cases h0 : la = 0 ∨ lb = 0 ∨ size = 0
  · simp [run_underlying ht, hz, h0]
  · cases kB with
    | zero => exact absurd rfl hkB
    | succ kB =>
     cases kA with
     | zero => exact absurd rfl hkA
     | succ kA =>
      cases hfa : w.frozen? a with
      | false =>
        cases hfe : w.frozen? { block := a.block, off := kA + 1 } <;>
          simp [run_underlying ht, hz, h0, hnb, hnb', frozen, noView, viewAt, mayBeOne, stringish, shape, Sem.run, hsa, hsb, hfa, hfb, hfb', hfe]
      | true => simp [run_underlying ht, hz, h0, hnb, hnb', frozen, noView, viewAt, mayBeOne, stringish, shape, Sem.run, hsa, hsb, hfa, hfb, hfb']
/-- where function f is the model's overlaps, of slices whose elements have cells -/
def OvlF (P : Program) (f size : Nat) : Prop := size ≠ 0 ∧ ∃ tS tR e, P.underlying tS = some (.slice e) ∧ (∀ w, (Go.sizeOf e).run P w = .ok size w) ∧
  ∀ (args : Array Value) (w : World), (callFunc f args).run P w = ((Extern.SlicesOverlaps.overlaps #[tS, tS] #[tR] args).run P w).andThen fun v w' => .ok (.value v) w'
theorem ovl_xc {P : Program} {f size : Nat} (hf : OvlF P f size) {T : Nat → Prop} {n0 k off n cap nx : Nat} {xs : List Value} {H : Nat → Option (List Value)} {row : List Value} (hx : xs ≠ []) (hsz : ∀ x ∈ xs, (lc x).length = size) (hk : H k = some row) (hr : row ≠ []) (hT : T k ∨ n0 ≤ k) :
    XC P T n0 f [deep xs, slc k off n cap] H nx (.bool false) := by
  obtain ⟨hs0, tS, tR, e, ht, hz, hrun⟩ := hf
  intro q own t G vs hP hqT hqn hB hlen hrd
  subst hP
  match vs, hlen with
  | [v1, v2], _ =>
    have h1 := hrd 0 v1 _ rfl rfl
    have h2 := hrd 1 v2 _ rfl rfl
    rcases deep_rd h1 with ⟨_, he⟩ | ⟨a, cap1, size1, us, rfl, hsp, hcap, hcl, hc, hz1, hr1⟩
    · exact absurd he hx
    obtain ⟨b, rfl, hnc, hkn, hbe⟩ := slc_rd h2
    obtain ⟨b', e', cs, fz, hb', hh, hsize, hcells, hW, hBB⟩ := hB.ob k row hk
    obtain ⟨hfr, rfl⟩ := hW (by rw [hqT, hqn]; exact hT)
    have hbb : b' = b := by
      rcases hbe with hbe | hbe
      · rw [hb'] at hbe; exact Option.some.inj hbe
      · rw [hb'] at hbe; cases hbe
    subst hbb
    have hxl : 0 < xs.length := List.length_pos_iff.2 hx
    have hs1 : size1 = size := by
      have h3 := hz1 0 xs[0] (List.getElem?_eq_getElem hxl)
      have h4 := hsz xs[0] (List.getElem_mem _)
      omega
    subst hs1
    obtain ⟨hcell, hoff, _⟩ := hc 0 (Nat.mul_pos hxl (Nat.pos_of_ne_zero hs0))
    have hsp' := hsp hx
    have hne : a.block ≠ b' := by
      intro hab
      rw [hab, hfr] at hoff
      omega
    have hsa : ∃ tA kA, G.w.shape? a.block = some (tA, kA) ∧ kA ≠ 0 := by
      rw [add_off a hsp'] at hcell
      unfold World.cell? at hcell
      unfold World.shape?
      cases hg : G.w.heap[a.block]? with
      | none => simp [hg] at hcell
      | some o =>
        cases o with
        | cells c el fr =>
          refine ⟨el, c.size, by simp, fun h0 => ?_⟩
          rw [hg] at hcell
          simp only [Option.isSome_none, Bool.false_eq_true, if_false] at hcell
          have := (Array.getElem?_eq_some_iff.1 hcell).1
          omega
        | _ => simp [hg] at hcell
    obtain ⟨tA, kA, hsa, hkA⟩ := hsa
    have hsb : G.w.shape? b' = some (e', cs.size) := by unfold World.shape?; rw [hh]
    have hfz : ∀ o, G.w.frozen? { block := b', off := o } = false := fun o => by
      unfold World.frozen?
      simp [hh]
    rw [hrun]
    have := run_overlaps_two (P := q.P) G.w tS tR e ht size1 hz a ⟨b', off, none⟩ xs.length cap1 n cap hne tA e' kA cs.size hsa hsb (by rw [hsize]; exact fun h => hr (List.length_eq_zero_iff.1 h)) hkA hfz (hfz off)
    show ((Extern.SlicesOverlaps.overlaps #[tS, tS] #[tR] #[.slice (some a) xs.length cap1, .slice (some ⟨b', off, none⟩) n cap]).run q.P G.w).andThen _ = _
    rw [this]
    rfl
end Go.PE
namespace Go.PE
open Go
def InsOK (P : Program) (f : Nat) : Prop := ∀ (l : List Itm) (x : Itm) (i k : Nat) (rest : List Value) (H : Nat → Option (List Value)) (nx : Nat), i ≤ l.length → l.length < 9 → H k = some (l.flatMap Itm.cells ++ rest) → rest.length = (9 - l.length) * 68 → k < nx →
    PCalls P f [slc k 0 l.length 9, .int .i64 i, deep [x.v]] H nx (fun j => j = k) (fun r H' _ => r = slc k 0 (l.length + 1) 9 ∧ ∃ rest' : List Value, rest'.length = (8 - l.length) * 68 ∧ H' = upd H k (some ((l.take i ++ x :: l.drop i).flatMap Itm.cells ++ rest')))
/-- what the two copies leave -/
theorem ins_rows {A B R X : List Value} {a b c : Nat} (ha : A.length = a) (hb : B.length = b) (hX : X.length = c) (hR : c ≤ R.length) :
    ((A ++ B ++ R).take (a + c) ++ B ++ (A ++ B ++ R).drop (a + c + b)).take a ++ X ++ ((A ++ B ++ R).take (a + c) ++ B ++ (A ++ B ++ R).drop (a + c + b)).drop (a + c) = A ++ X ++ B ++ R.drop c := by
  have hl : (A ++ B ++ R).length = a + b + R.length := by simp [ha, hb]; omega
  have h1 : ((A ++ B ++ R).take (a + c)).length = a + c := by rw [List.length_take, hl]; omega
  have h2 : ((A ++ B ++ R).take (a + c) ++ B ++ (A ++ B ++ R).drop (a + c + b)).take a = A := by
    rw [List.append_assoc, List.take_append_of_le_length (by omega), List.take_take, Nat.min_eq_left (by omega), List.append_assoc, List.take_append_of_le_length (by omega), List.take_of_length_le (by omega)]
  have h3 : ((A ++ B ++ R).take (a + c) ++ B ++ (A ++ B ++ R).drop (a + c + b)).drop (a + c) = B ++ (A ++ B ++ R).drop (a + c + b) := by
    rw [List.append_assoc, List.drop_append, List.drop_of_length_le (by omega), h1, Nat.sub_self]
    simp
  have h4 : (A ++ B ++ R).drop (a + c + b) = R.drop c := by
    rw [List.drop_append, List.drop_of_length_le (by simp; omega), List.nil_append]
    congr 1
    simp; omega
  rw [h2, h3, h4, List.append_assoc (A ++ X)]
theorem ins_ok {P : Program} {f ov rr t : Nat} (hc : compFnX P [t, 2000000] f = some (95, slices_Insert_api_Item_api_Item_BC ov rr, [.t 6])) (hov : OvlF P ov 68) : InsOK P f := by
  intro l x i k rest H nx hi hl hk hrest hkn
  refine PCalls_ofX hc (by simp) fun hw => ?_
  have hmx : (maxLen : Int) = 9223372036854775807 := rfl
  have hcl : (l.flatMap Itm.cells).length = l.length * 68 := itEl.len l
  have hsrc1 : ∀ H : Nat → Option (List Value), srcV H (deep [x.v]) 68 = some (1, x.cells) := fun H => by
    have := itEl.src H [x]
    simpa [itEl] using this
  have hn9 : ¬ 9 = l.length := by omega
  by_cases hil : i = l.length
  · subst hil
    simp [slices_Insert_api_Item_api_Item_BC, slices_Insert_api_Item_api_Item_BC_j4, show l.length ≤ 9 by omega, hn9, hsrc1]
    refine wAppB_slc (m := 1) hk (by rw [List.length_append, hcl]; omega) (by omega) (.inl rfl) (by show _ ≤ maxLen; unfold maxLen; omega) (by omega) (fun _ => ?_) (fun h => by omega)
    simp
    refine wF_of ⟨rfl, rest.drop 68, by rw [List.length_drop, hrest]; omega, ?_⟩
    congr 2
    rw [List.take_append_of_le_length (by omega), List.take_of_length_le (by omega), List.drop_append, List.drop_of_length_le (by omega), hcl]
    simp
    rw [show (l.length + 1) * 68 - l.length * 68 = 68 by omega]
  · have hlt : i < l.length := by omega
    have hw1 := w64 (x := (l.length : Int) + 1) (by omega) (by omega)
    have hw2 := w64 (x := (i : Int) + 1) (by omega) (by omega)
    have hA : ((l.take i).flatMap Itm.cells).length = i * 68 := by
      have := itEl.len (l.take i); rw [List.length_take, Nat.min_eq_left (by omega)] at this; exact this
    have hB : ((l.drop i).flatMap Itm.cells).length = (l.length - i) * 68 := by
      have := itEl.len (l.drop i); rw [List.length_drop] at this; exact this
    have hrow : l.flatMap Itm.cells ++ rest = (l.take i).flatMap Itm.cells ++ (l.drop i).flatMap Itm.cells ++ rest := by
      rw [← List.flatMap_append, List.take_append_drop]
    have hBd : ((l.drop i).flatMap Itm.cells).map dg1 = (l.drop i).flatMap Itm.cells := El.dgs (E := itEl) _
    have hout : (l.take i ++ x :: l.drop i).flatMap Itm.cells = (l.take i).flatMap Itm.cells ++ x.cells ++ (l.drop i).flatMap Itm.cells := by simp
    rw [hrow] at hk
    have hbne : ((i : Int) == (l.length : Int)) = false := by simp; omega
    simp [slices_Insert_api_Item_api_Item_BC, slices_Insert_api_Item_api_Item_BC_j4, slices_Insert_api_Item_api_Item_BC_j3, slices_Insert_api_Item_api_Item_BC_j2, show l.length ≤ 9 by omega, hn9, hsrc1, hbne, hw1, show ¬ (9 : Int) < (l.length : Int) + 1 by omega, show i ≤ 9 by omega, hi, show ¬ 9 = i by omega, hw2, show (0 : Int) ≤ (l.length : Int) + 1 by omega, show (0 : Int) ≤ (i : Int) + 1 by omega, show l.length + 1 ≤ 9 by omega, show i + 1 ≤ l.length + 1 by omega, show ¬ 9 = i + 1 by omega]
    refine wXc_of (ovl_xc hov (by simp) (by simp) hk (by intro h; have := congrArg List.length h; simp [hA, hB, hrest] at this; omega) (.inl rfl)) rfl ?_
    simp [show l.length ≤ 9 by omega, hn9, hsrc1, hw1, show i ≤ 9 by omega, hi, show ¬ 9 = i by omega, hw2, show (0 : Int) ≤ (i : Int) + 1 by omega, show l.length + 1 ≤ 9 by omega, show i + 1 ≤ l.length + 1 by omega, show ¬ 9 = i + 1 by omega, show i ≤ l.length + 1 by omega]
    generalize (l.take i).flatMap Itm.cells = A at *
    generalize (l.drop i).flatMap Itm.cells = B at *
    have hlen : (A ++ B ++ rest).length = 9 * 68 := by simp [hA, hB, hrest]; omega
    have hs2 : srcV H (slc k (i * 68) (l.length + 1 - i) (9 - i)) 68 = some (l.length + 1 - i, (((A ++ B ++ rest).drop (i * 68)).take ((l.length + 1 - i) * 68)).map dg1) := srcV_slc hk (by rw [hlen]; omega)
    have hcells : ((((A ++ B ++ rest).drop (i * 68)).take ((l.length + 1 - i) * 68)).map dg1).take ((l.length - i) * 68) = B := by
      rw [← List.map_take, List.take_take, Nat.min_eq_left (by omega), List.append_assoc, List.drop_append, List.drop_of_length_le (by omega), List.nil_append, hA, Nat.sub_self, List.drop_zero, List.take_append_of_le_length (by omega), List.take_of_length_le (by omega), hBd]
    rw [hs2]
    refine wCpy_of hk (by rw [hlen]; omega) (.inl rfl) ?_
    rw [Nat.min_eq_left (by omega), hcells]
    simp [show i ≤ l.length + 1 by omega, show l.length + 1 ≤ 9 by omega, show ¬ 9 = i by omega, hsrc1]
    refine wCpy_of (upd_same _ _ _) (by simp [hA, hB, hrest]; omega) (.inl rfl) ?_
    rw [Nat.min_eq_right (by omega)]
    simp
    refine wF_of ⟨rfl, rest.drop 68, by rw [List.length_drop, hrest]; omega, ?_⟩
    have := ins_rows (X := x.cells) (R := rest) hA hB (Itm.len x) (by omega)
    rw [show i * 68 + 68 = (i + 1) * 68 by omega] at this ⊢
    simp only [List.append_assoc] at this ⊢
    rw [this]
end Go.PE
namespace Go.PE
open Go
def Itm.ok (x : Itm) : Prop := x.wf ∧ x.rng ∧ x.fin
def Rcv.ok (r : Rcv) : Prop := inI64 r.ap ∧ ∀ x ∈ r.l, x.ok
def hasP (l : List Itm) (p : Int) : Bool := l.any fun y => y.place == p
def insI (l : List Itm) (x : Itm) : List Itm := l.takeWhile (fun y => decide (y.place < x.place)) ++ x :: l.dropWhile (fun y => decide (y.place < x.place))
def keepE (r : Rcv) (x : Itm) : Int :=
  if r.val = false then 5 else if x.place ≤ r.ap ∨ hasP r.l x.place = true then 10 else if r.ap + 8 < x.place then 11 else if 4096 < x.place then 1 else 0
def keepR (r : Rcv) (x : Itm) : Rcv := if keepE r x = 0 then ⟨r.ap, insI r.l x⟩ else ⟨0, []⟩
def keepV (r : Rcv) (x : Itm) : Value := tup [(keepR r x).v, .int .i64 (keepE r x)]
theorem keepV_err {r : Rcv} {x : Itm} {e : Int} (h : keepE r x = e) (he : e ≠ 0) : keepV r x = tup [ag [.int .i64 0, deep []], .int .i64 e] := by
  unfold keepV keepR; rw [h, if_neg he]; rfl
theorem keepV_ok {r : Rcv} {x : Itm} (h : keepE r x = 0) : keepV r x = tup [ag [.int .i64 r.ap, deep ((insI r.l x).map Itm.v)], .int .i64 0] := by
  unfold keepV keepR; rw [h, if_pos rfl]; rfl
def KeepOK (P : Program) (f : Nat) : Prop := ∀ (r : Rcv) (x : Itm), r.ok → x.ok → r.l.length ≤ 1000000 → ∀ (H : Nat → Option (List Value)) (nx : Nat),
    PCalls P f [r.v, x.v] H nx (fun _ => False) (fun v H' _ => v = keepV r x ∧ H' = H)
theorem asc_lt : ∀ {l : List Itm} {ap b : Int}, asc ap b l = true → (∀ x ∈ l, b < x.place ∧ x.place ≤ ap + 8) ∧ ∀ (j k : Nat) (hj : j < l.length) (hk : k < l.length), j < k → l[j].place < l[k].place
  | [], ap, b, _ => ⟨by simp, fun j k hj => by simp at hj⟩
  | x :: r, ap, b, h => by
    unfold asc at h
    simp only [Bool.and_eq_true, decide_eq_true_eq] at h
    obtain ⟨h1, h2⟩ := asc_lt h.2
    refine ⟨fun y hy => ?_, fun j k hj hk hjk => ?_⟩
    · rcases List.mem_cons.1 hy with rfl | hy
      · exact h.1
      · have := h1 y hy; omega
    · cases k with
      | zero => omega
      | succ k =>
        have hk' : k < r.length := by simpa using hk
        cases j with
        | zero => exact (h1 r[k] (List.getElem_mem hk')).1
        | succ j => exact h2 j k (by simpa using hj) hk' (by omega)
theorem cutW {l : List Itm} {p : Itm → Bool} : ∀ {i : Nat}, i ≤ l.length → (∀ (j : Nat) (hj : j < l.length), j < i → p l[j] = true) → (∀ (hj : i < l.length), p l[i] = false) → l.takeWhile p = l.take i ∧ l.dropWhile p = l.drop i := by
  induction l with
  | nil => intro i hi _ _; simp
  | cons a r ih =>
    intro i hi h1 h2
    cases i with
    | zero =>
      have := h2 (by simp)
      simp at this
      simp [this]
    | succ i =>
      have ha := h1 0 (by simp) (by omega)
      simp at ha
      obtain ⟨e1, e2⟩ := ih (i := i) (by simpa using hi) (fun j hj hji => by have := h1 (j + 1) (by simpa using hj) (by omega); simpa using this) (fun hj => by have := h2 (by simpa using hj); simpa using this)
      simp [ha, e1, e2]
/-- the search's answer is the place -/
theorem bs_ins {l : List Itm} {x : Itm} {ap b0 : Int} {i : Nat} {b : Bool} (h : BsR l x.place i b) (ha : asc ap b0 l = true) (hap : 0 ≤ ap) (hap2 : ap ≤ 4096) (hb0 : ap ≤ b0) (h1 : ap < x.place) (h2 : x.place ≤ ap + 8) :
    (b = true ↔ hasP l x.place = true) ∧ (b = false → insI l x = l.take i ++ x :: l.drop i) := by
  obtain ⟨a1, a2⟩ := asc_lt ha
  obtain ⟨c1, c2⟩ := h.cut (fun y hy => w64 (by have := a1 y hy; omega) (by have := a1 y hy; omega)) a2
  refine ⟨⟨fun hb => ?_, fun hp => ?_⟩, fun hb => ?_⟩
  · obtain ⟨hi, he⟩ := h.fnd hb
    unfold hasP
    rw [List.any_eq_true]
    exact ⟨_, List.getElem_mem hi, by simpa using he⟩
  · unfold hasP at hp
    rw [List.any_eq_true] at hp
    obtain ⟨y, hy, he⟩ := hp
    obtain ⟨j, hj, rfl⟩ := List.getElem_of_mem hy
    have he : l[j].place = x.place := by simpa using he
    cases b with
    | true => rfl
    | false =>
      rcases Nat.lt_or_ge j i with hji | hji
      · have := c1 j hj hji; omega
      · have hi : i < l.length := by omega
        have h3 := h.nfd rfl hi
        have h4 := c2 i hi (Nat.le_refl _)
        rcases Nat.lt_or_ge i j with h5 | h5
        · have := a2 i j hi hj h5; omega
        · obtain rfl : i = j := by omega
          exact absurd he h3
  · obtain ⟨e1, e2⟩ := cutW (p := fun y => decide (y.place < x.place)) h.le (fun j hj hji => by simpa using c1 j hj hji) (fun hj => by have := c2 i hj (Nat.le_refl _); simpa using this)
    unfold insI
    rw [e1, e2]
/-- a call that takes a slice of a box of one's own: the box is forgotten -/
theorem give_slc {α : Type} {E : El α} {P : Program} {n0 f : Nat} {T : Nat → Prop} {d : Option Nat} {s : PS} {K : PS → Prop} {k cap : Nat} {rest : List Value} {m : List α} {as : List Value} {R : Value → Prop}
    (hk : s.H k = some (m.flatMap E.f ++ rest)) (hn : n0 ≤ k) (hcap : cap ≤ maxLen) (hc : ∀ H1, PCalls P f (deep (m.map E.g) :: as) H1 s.nx (fun _ => False) (fun p H' _ => R p ∧ H' = H1))
    (hK : ∀ p n', R p → s.nx ≤ n' → K ⟨(s.putO d p).t, upd s.H k none, n'⟩) : wCallB (PCalls P) T n0 f (slc k 0 m.length cap :: as) d s K := by
  refine ⟨upd s.H k none, deep (m.map E.g) :: as, fun j => ?_, ⟨rfl, fun i a b ha hb => ?_⟩, .inl ⟨fun _ => False, fun _ h => h.elim, fun _ _ h => h.elim, (hc _).more.mono ?_⟩⟩
  · by_cases e : j = k
    · subst e; exact .inr ⟨hn, upd_same _ _ _⟩
    · exact .inl (upd_ne _ _ e)
  · cases i with
    | zero =>
      simp at ha hb; subst ha; subst hb
      exact .inl (Cv1_list E.f E.g E.hg E.size E.hf E.hd hk (upd_same _ _ _) hn hcap)
    | succ i =>
      simp at ha hb; rw [ha] at hb
      exact .inl (.inl (Option.some.inj hb).symm)
  · rintro p H' nx' ⟨⟨hp, rfl⟩, hn', _⟩
    have := hK p nx' hp hn'
    cases d <;> exact this
theorem rowNoLin_of {row : List Value} (h : row.map dg1 = row) : rowNoLin row := fun i e xs he => by
  have hi : (row.map dg1).getD i undef = lin e xs := by rw [h]; exact he
  rw [List.getD_eq_getElem?_getD, List.getElem?_map] at hi
  cases hr : row[i]? with
  | none => rw [hr] at hi; simp [undef, lin] at hi
  | some v => rw [hr] at hi; exact dg1_ne_lin v e xs (by simpa using hi)
theorem zItD_dg : zItD.map dg1 = zItD := by simp [zItD]
theorem rep_dg {z : List Value} (h : z.map dg1 = z) : ∀ n, ((List.replicate n z).flatten).map dg1 = (List.replicate n z).flatten
  | 0 => rfl
  | n + 1 => by rw [List.replicate_succ, List.flatten_cons, List.map_append, h, rep_dg h n]
theorem keep_ok {P : Program} {f va bs k1 tI ins cp : Nat} (hc : compFnX P [tI, 2000000] f = some (65, receiver_Keep_BC va bs k1 tI ins cp, [.cA 4 2, .t 5])) (hva : RValOK P va) (hbs : BsOK P bs k1) (hins : InsOK P ins) (hcp : CopyItOK P cp) : KeepOK P f := by
  intro r x hr hx hlen H nx
  refine PCalls_ofX hc (by simp) fun hw => ?_
  have hmx : (maxLen : Int) = 9223372036854775807 := rfl
  have a1 : ¬ nx = nx + 1 + 1 := by omega
  have a2 : ¬ nx + 1 = nx + 1 + 1 := by omega
  have a3 : ¬ nx = nx + 1 := by omega
  have a4 : nx ≤ nx + 1 + 1 := by omega
  have a5 : nx ≤ nx + 1 := by omega
  simp [receiver_Keep_BC, Rcv.ag, a1, a2, a3, a4, a5]
  refine wCallB_of (wCall_eq (Q := fun v => v = .bool r.val) (hva r (by omega) _ _) fun v n1 hv hn1 => ?_)
  subst hv
  simp at hn1
  cases h1 : r.val with
  | false =>
    simp [a1, a2, a3, a4, a5]
    exact wF_own hw (by simp [a4, a5]) ⟨by rw [keepV_err (e := 5) (by simp [keepE, h1]) (by omega)]; rfl, rfl⟩
  | true =>
    have hval := h1
    simp only [Rcv.val, Bool.and_eq_true, decide_eq_true_eq] at hval
    obtain ⟨⟨⟨g1, g2⟩, g3⟩, g4⟩ := hval
    have hw8 := w64 (x := r.ap + 8) (by omega) (by omega)
    simp [receiver_Keep_BC_j2, a1, a2, a3, a4, a5]
    refine wCallB_of (wCall_eq (Q := fun v => bsV r.l x.place v) (hbs r.l x.place (by omega) hx.2.1 (fun y hy => (hr.2 y hy).2.1) _ _) fun v n2 hv hn2 => ?_)
    obtain ⟨i, b, rfl, hb⟩ := hv
    simp at hn2
    by_cases h2 : x.place ≤ r.ap
    · simp [h2, a1, a2, a3, a4, a5]
      exact wF_own hw (by simp [a4, a5]) ⟨by rw [keepV_err (e := 10) (by simp [keepE, h1, h2]) (by omega)]; rfl, rfl⟩
    cases b with
    | true =>
      have h3 : hasP r.l x.place = true := by
        obtain ⟨hi, he⟩ := hb.fnd rfl
        unfold hasP
        rw [List.any_eq_true]
        exact ⟨_, List.getElem_mem hi, by simpa using he⟩
      simp [h2, a1, a2, a3, a4, a5]
      exact wF_own hw (by simp [a4, a5]) ⟨by rw [keepV_err (e := 10) (by simp [keepE, h1, h3]) (by omega)]; rfl, rfl⟩
    | false =>
      by_cases h4 : r.ap + 8 < x.place
      · have h3 : hasP r.l x.place = false := by
          unfold hasP
          rw [List.any_eq_false]
          intro y hy
          have := ((asc_lt g4).1 y hy)
          simp; omega
        simp [a1, a2, a3, a4, a5, h2, h4, hw8]
        exact wF_own hw (by simp [a4, a5]) ⟨by rw [keepV_err (e := 11) (by simp [keepE, h1, h2, h3, h4]) (by omega)]; rfl, rfl⟩
      obtain ⟨k3, k4⟩ := bs_ins hb g4 g1 g2 (Int.le_refl _) (by omega) (by omega)
      have h3 : hasP r.l x.place = false := by
        cases hh : hasP r.l x.place with
        | false => rfl
        | true => have := k3.2 hh; cases this
      by_cases h5 : 4096 < x.place
      · simp [a1, a2, a3, a4, a5, h2, h4, h5, hw8]
        exact wF_own hw (by simp [a4, a5]) ⟨by rw [keepV_err (e := 1) (by simp [keepE, h1, h2, h3, h4, h5]) (by omega)]; rfl, rfl⟩
      have hE : keepE r x = 0 := by simp [keepE, h1, h2, h3, h4, h5]
      have hI := k4 rfl
      have b1 : ¬ nx = n2 := by omega
      have b2 : ¬ nx + 1 = n2 := by omega
      have b3 : ¬ nx + 1 + 1 = n2 := by omega
      simp [a1, a2, a3, a4, a5, b1, b2, b3, h2, h4, h5, hw8, receiver_Keep_BC_j1, Itm.ag, -List.reduceReplicate]
      refine ⟨by unfold maxLen; omega, ?_⟩
      have hsrc : ∀ H : Nat → Option (List Value), srcV H (deep (r.l.map Itm.v)) 68 = some (r.l.length, r.l.flatMap Itm.cells) := fun H => itEl.src H r.l
      have hcl : (r.l.flatMap Itm.cells).length = r.l.length * 68 := itEl.len r.l
      have hz9 : (List.replicate 9 zItD).flatten.length = 612 := by rw [flat_rep_len, zItD_len]
      have hzd := rep_dg zItD_dg 9
      generalize (List.replicate 9 zItD).flatten = z9 at hz9 hzd
      rw [hsrc]
      refine wCpy_of (upd_same _ _ _) (by omega) (.inr (by omega)) ?_
      rw [Nat.min_eq_right (by omega)]
      simp [a1, a2, a3, a4, a5, b1, b2, b3, show r.l.length ≤ 9 by omega]
      rw [List.take_of_length_le (by omega)]
      generalize hrest : z9.drop (r.l.length * 68) = rest
      have hrl : rest.length = (9 - r.l.length) * 68 := by rw [← hrest, List.length_drop]; omega
      have hrd : rest.map dg1 = rest := by rw [← hrest, List.map_drop, hzd]
      refine wCallB_of (wCall_leT (hins r.l x i n2 rest _ _ hb.le (by omega) (by simp) hrl (by simp)) (fun j hj => .inl (by omega)) (fun j row hj hr' => ?_) fun p H' nx' hR hn' => ?_)
      · subst hj
        simp at hr'
        subst hr'
        refine rowNoLin_of ?_
        rw [List.map_append, hrd]
        congr 1
        exact El.dgs (E := itEl) _
      obtain ⟨rfl, rest', hrl', rfl⟩ := hR
      have hn' : n2 + 1 ≤ nx' := hn'
      have hil : (insI r.l x).length = r.l.length + 1 := by rw [hI]; simp; have := hb.le; omega
      have hifin : ∀ y ∈ insI r.l x, y.fin := fun y hy => by
        rw [hI] at hy
        rcases List.mem_append.1 hy with hy | hy
        · exact (hr.2 y (List.mem_of_mem_take hy)).2.2
        · rcases List.mem_cons.1 hy with rfl | hy
          · exact hx.2.2
          · exact (hr.2 y (List.mem_of_mem_drop hy)).2.2
      rw [← hI]
      have hkv := keepV_ok hE
      rw [← hil]
      simp [a1, a2, a3, a4, a5, b1, b2, b3]
      refine ⟨?_, ?_⟩
      · refine give_slc (E := itEl) (R := fun v => asL Itm.v (insI r.l x) v) (rest := rest') (by simp; rfl) (by omega) (by unfold maxLen; omega) (fun H1 => hcp _ H1 _ (by omega) hifin) fun p n' hp hn3 => ?_
        obtain ⟨q1, q2, q3⟩ := asL_dg hp
        simp [a1, a2, a3, a4, a5, b1, b2, b3, q1, q2, q3]
        exact wF_own hw (by simp [a4, a5, show nx ≤ n2 by omega]) ⟨by rw [hkv]; rfl, rfl⟩
      · refine give_slc (E := itEl) (R := fun v => asL Itm.v (insI r.l x) v) (rest := rest') (by simp; rfl) (by omega) (by unfold maxLen; omega) (fun H1 => hcp _ H1 _ (by omega) hifin) fun p n' hp hn3 => ?_
        obtain ⟨q1, q2, q3⟩ := asL_dg hp
        simp [a1, a2, a3, a4, a5, b1, b2, b3, q1, q2, q3]
        exact wF_own hw (by simp [a4, a5, show nx ≤ n2 by omega]) ⟨by rw [hkv]; rfl, rfl⟩
end Go.PE
namespace Go.PE
open Go
/-- what the loop has put together, before the i-th item -/
def kInv (l : List Itm) (x : Itm) (i : Nat) (out : List Itm) (done : Bool) : Prop :=
  out.length ≤ i + 1 ∧ (∀ (j : Nat) (hj : j < l.length), j < i → l[j].place ≠ x.place) ∧ (done = false → out = l.take i ∧ ∀ (j : Nat) (hj : j < l.length), j < i → l[j].place < x.place) ∧ (done = true → out ++ l.drop i = insI l x)
theorem kInv_0 (l : List Itm) (x : Itm) : kInv l x 0 [] false := ⟨by simp, fun j hj h => by omega, fun _ => ⟨by simp, fun j hj h => by omega⟩, fun h => by cases h⟩
theorem insI_at {l : List Itm} {x : Itm} {i : Nat} (hi : i ≤ l.length) (h1 : ∀ (j : Nat) (hj : j < l.length), j < i → l[j].place < x.place) (h2 : ∀ hj : i < l.length, x.place < l[i].place) : insI l x = l.take i ++ x :: l.drop i := by
  obtain ⟨e1, e2⟩ := cutW (p := fun y => decide (y.place < x.place)) hi (fun j hj hji => by simpa using h1 j hj hji) (fun hj => by have := h2 hj; simp; omega)
  unfold insI
  rw [e1, e2]
theorem kInv_more {l : List Itm} {x : Itm} {i : Nat} {out : List Itm} {done : Bool} (h : kInv l x i out done) (hi : i < l.length) (hne : l[i].place ≠ x.place) (hd : done = true ∨ l[i].place < x.place) : kInv l x (i + 1) (out ++ [l[i]]) done := by
  obtain ⟨h0, h1, h2, h3⟩ := h
  refine ⟨by simp; omega, fun j hj hji => ?_, fun hdf => ?_, fun hdt => ?_⟩
  · rcases Nat.lt_or_ge j i with h | h
    · exact h1 j hj h
    · obtain rfl : j = i := by omega
      exact hne
  · obtain ⟨rfl, h4⟩ := h2 hdf
    have hlt : l[i].place < x.place := by
      rcases hd with hd | hd
      · rw [hdf] at hd; cases hd
      · exact hd
    refine ⟨by rw [List.take_succ_eq_append_getElem hi], fun j hj hji => ?_⟩
    rcases Nat.lt_or_ge j i with h | h
    · exact h4 j hj h
    · obtain rfl : j = i := by omega
      exact hlt
  · rw [← h3 hdt, List.drop_eq_getElem_cons hi, List.append_assoc]; rfl
theorem kInv_ins {l : List Itm} {x : Itm} {i : Nat} {out : List Itm} (h : kInv l x i out false) (hi : i < l.length) (hlt : x.place < l[i].place) : kInv l x (i + 1) (out ++ [x] ++ [l[i]]) true := by
  obtain ⟨h0, h1, h2, h3⟩ := h
  obtain ⟨rfl, h4⟩ := h2 rfl
  refine ⟨by simp; omega, fun j hj hji => ?_, fun h => (by cases h), fun _ => ?_⟩
  · rcases Nat.lt_or_ge j i with h | h
    · exact h1 j hj h
    · obtain rfl : j = i := by omega
      omega
  · rw [insI_at (by omega) h4 (fun _ => hlt), List.drop_eq_getElem_cons hi]; simp
theorem kInv_end {l : List Itm} {x : Itm} {out : List Itm} {done : Bool} (h : kInv l x l.length out done) : hasP l x.place = false ∧ (done = false → insI l x = out ++ [x]) ∧ (done = true → insI l x = out) := by
  obtain ⟨h0, h1, h2, h3⟩ := h
  refine ⟨?_, fun hd => ?_, fun hd => ?_⟩
  · unfold hasP
    rw [List.any_eq_false]
    intro y hy
    obtain ⟨j, hj, rfl⟩ := List.getElem_of_mem hy
    simpa using h1 j hj hj
  · obtain ⟨rfl, h4⟩ := h2 hd
    rw [insI_at (Nat.le_refl _) h4 (fun h => by omega)]; simp
  · rw [← h3 hd]; simp
/-- what one may append to: nothing yet, or a list of the call's own -/
def accV (tI : Nat) : List Itm → Value
  | [] => ns []
  | x :: r => lin tI ((x :: r).map Itm.v)
theorem accV_app (tI : Nat) (out : List Itm) (x : Itm) : lin tI (out.map Itm.v ++ [x.v]) = accV tI (out ++ [x]) := by
  cases out <;> simp [accV]
@[simp] theorem accV_dg1 (tI : Nat) (out : List Itm) : dg1 (accV tI out) = deep (out.map Itm.v) := by cases out <;> rfl
theorem wApp_acc {tI size bytes tt : Nat} {out : List Itm} {x : Itm} {d : Option Nat} {s : PS} {K : PS → Prop} (hs : size = 68) (h1 : out.length + 1 ≤ maxLen) (h2 : (out.length + 1) * bytes ≤ 140737488355328) (hK : K ((s.put tt (deep (out.map Itm.v))).putO d (accV tI (out ++ [x])))) : wApp (accV tI out) (some [x.v]) tI size bytes tt d s K := by
  subst hs
  rw [← accV_app] at hK
  cases out with
  | nil => exact ⟨[], [x.v], .inr ⟨rfl, rfl⟩, rfl, by simp, by simp, by simpa using h1, by simpa using h2, hK⟩
  | cons a r =>
    exact ⟨(a :: r).map Itm.v, [x.v], .inl rfl, rfl, by simp, by simp, by simpa using h1, by simpa using h2, hK⟩
theorem sts_acc {C : Known} {P : Program} {T : Nat → Prop} {n0 : Nat} {x : Operand} {t k tI : Nat} {row : List Value} {out : List Itm} {s : PS} {K : PS → Prop} (hx : s.ev x = ptr k 1) (hk : s.H k = some row) (ho : 1 < row.length) (hT : T k ∨ n0 ≤ k) (ht : s.t t = accV tI out)
    (h : K ⟨upd s.t t (deep (out.map Itm.v)), upd s.H k (some (row.set 1 (accV tI out))), s.nx⟩) : PE.step C P T n0 none (.sts x t) s K := by
  refine ⟨k, 1, row, hx, hk, ho, hT, fun ps h => ?_, fun ps h => ?_, ?_⟩
  · rw [ht] at h; cases out <;> simp [accV, lin, ns] at h
  · rw [ht] at h; cases out <;> simp [accV, lin, ns] at h
  · rw [ht, show dg (accV tI out) = deep (out.map Itm.v) from by cases out <;> rfl]; exact h
def outR (tI : Nat) (ap : Int) (out : List Itm) : List Value := [.int .i64 ap, accV tI out]
@[simp] theorem outR_len (tI : Nat) (ap : Int) (out : List Itm) : (outR tI ap out).length = 2 := _root_.id rfl
@[simp] theorem outR_0 (tI : Nat) (ap : Int) (out : List Itm) : (outR tI ap out)[0]? = some (.int .i64 ap) := _root_.id rfl
@[simp] theorem outR_1 (tI : Nat) (ap : Int) (out : List Itm) : (outR tI ap out)[1]? = some (accV tI out) := _root_.id rfl
theorem outR_set (tI : Nat) (ap : Int) (out : List Itm) (x : Itm) (v : Value) : ((outR tI ap out).set 1 v).set 1 (accV tI (out ++ [x])) = outR tI ap (out ++ [x]) := by simp [outR]
@[simp] theorem outR_dg (tI : Nat) (ap : Int) (out : List Itm) : (outR tI ap out).map dg1 = (Rcv.mk ap out).cells := by simp [outR, Rcv.cells]
@[simp] theorem outR_take (tI : Nat) (ap : Int) (out : List Itm) : (outR tI ap out).take 2 = outR tI ap out := _root_.id rfl
/-- behind the loop -/
theorem rkeep_j5 {P : Program} {tI n0 : Nat} {T : Nat → Value} {H : Nat → Option (List Value)} {nx kr kx kv ko : Nat} {r : Rcv} {x : Itm} {out : List Itm} {done : Bool} {c0 c1 : Value} {Q : Ex → PS → Prop} (hap : 0 ≤ r.ap) (hap2 : r.ap ≤ 4096) (hlen : out.length ≤ 1000)
    (e2 : T 2 = ptr kr 0) (e3 : T 3 = ptr kx 0) (e4 : T 4 = ptr kv 0) (e6 : T 6 = ptr ko 0) (e7 : T 7 = .bool done) (h2 : H kr = some r.cells) (h3 : H kx = some x.cells) (h4 : H kv = some [c0, c1]) (h6 : H ko = some (outR tI r.ap out)) (n4 : n0 ≤ kv) (n6 : n0 ≤ ko)
    (d1 : ¬ kr = ko) (d2 : ¬ kx = ko) (d3 : ¬ kv = ko)
    (hK : ∀ t' H' c0' c1' (out' : Rcv), (t' : Nat → Value) 4 = ptr kv 0 → H' kv = some [c0', c1'] → dg1 c0' = .int .i64 out'.ap → dg1 c1' = deep (out'.l.map Itm.v) → (∀ k, k ≠ kv → k ≠ ko → H' k = H k) →
      ((x.place ≤ r.ap ∧ t' 5 = .int .i64 10 ∧ out' = ⟨0, []⟩) ∨ (r.ap < x.place ∧ r.ap + 8 < x.place ∧ t' 5 = .int .i64 11 ∧ out' = ⟨0, []⟩) ∨ (r.ap < x.place ∧ x.place ≤ r.ap + 8 ∧ 4096 < x.place ∧ t' 5 = .int .i64 1 ∧ out' = ⟨0, []⟩) ∨
        (r.ap < x.place ∧ x.place ≤ r.ap + 8 ∧ x.place ≤ 4096 ∧ t' 5 = .int .i64 0 ∧ out' = ⟨r.ap, if done then out else out ++ [x]⟩)) → Q .rt ⟨t', H', nx⟩) :
    wpc (PCalls P) P (fun _ => False) n0 (ref21_Keep_BC_j5 tI) Q ⟨T, H, nx⟩ := by
  have hmx : (maxLen : Int) = 9223372036854775807 := rfl
  have hw8 := w64 (x := r.ap + 8) (by omega) (by omega)
  by_cases g1 : x.place ≤ r.ap
  · simp [ref21_Keep_BC_j5, e2, e3, e4, h2, h3, h4, g1, n4]
    exact hK _ _ (.int .i64 0) (ns []) ⟨0, []⟩ (by simp [e4]) (by simp) rfl rfl (fun k hk _ => by simp [hk]) (.inl ⟨g1, by simp, rfl⟩)
  by_cases g2 : r.ap + 8 < x.place
  · simp [ref21_Keep_BC_j5, e2, e3, e4, h2, h3, h4, g1, g2, hw8, n4]
    exact hK _ _ (.int .i64 0) (ns []) ⟨0, []⟩ (by simp [e4]) (by simp) rfl rfl (fun k hk _ => by simp [hk]) (.inr (.inl ⟨by omega, g2, by simp, rfl⟩))
  by_cases g3 : 4096 < x.place
  · simp [ref21_Keep_BC_j5, e2, e3, e4, h2, h3, h4, g1, g2, g3, hw8, n4]
    exact hK _ _ (.int .i64 0) (ns []) ⟨0, []⟩ (by simp [e4]) (by simp) rfl rfl (fun k hk _ => by simp [hk]) (.inr (.inr (.inl ⟨by omega, by omega, g3, by simp, rfl⟩)))
  cases done with
  | true =>
    simp [ref21_Keep_BC_j5, ref21_Keep_BC_j4, e2, e3, e4, e6, e7, h2, h3, h4, h6, g1, g2, g3, hw8, n4]
    exact hK _ _ (.int .i64 r.ap) (deep (out.map Itm.v)) ⟨r.ap, out⟩ (by simp [e4]) (by simp [Rcv.cells]) rfl rfl (fun k hk _ => by simp [hk]) (.inr (.inr (.inr ⟨by omega, by omega, by omega, by simp, rfl⟩)))
  | false =>
    simp [ref21_Keep_BC_j5, ref21_Keep_BC_j4, e2, e3, e4, e6, e7, h2, h3, h4, h6, g1, g2, g3, hw8, n4]
    refine wLdT_ptr (row := outR tI r.ap out) (c := accV tI out) (by simp [h6]) (outR_1 _ _ _) (.inr n6) ?_
    simp [e2, e3, e4, e6, h2, h3, h4, h6, d1, d2, d3, Itm.ag]
    refine wApp_acc rfl (by unfold maxLen; omega) (by omega) ?_
    simp [e2, e3, e6]
    refine sts_acc (tI := tI) (k := ko) (out := out ++ [x]) (row := (outR tI r.ap out).set 1 (deep (out.map Itm.v))) (by simp) (by simp) (by simp) (.inr n6) (by simp) ?_
    rw [outR_set]
    simp [e2, e3, e4, e6, h2, h3, h4, h6, d1, d2, d3, n4]
    exact hK _ _ (.int .i64 r.ap) (deep ((out ++ [x]).map Itm.v)) ⟨r.ap, out ++ [x]⟩ (by simp [e4]) (by simp [Rcv.cells]) rfl rfl (fun k hk hk2 => by simp [hk, hk2]) (.inr (.inr (.inr ⟨by omega, by omega, by omega, by simp, by simp⟩)))
theorem rkeep_j1 {P : Program} {tI n0 : Nat} {T : Nat → Value} {H : Nat → Option (List Value)} {nx kr ko i : Nat} {r : Rcv} {out : List Itm} {Q : Ex → PS → Prop} (hi : i < r.l.length) (hlen : out.length ≤ 1000)
    (e2 : T 2 = ptr kr 0) (e6 : T 6 = ptr ko 0) (e8 : T 8 = .int .i64 i) (h2 : H kr = some r.cells) (h6 : H ko = some (outR tI r.ap out)) (n6 : n0 ≤ ko) (d1 : ¬ kr = ko)
    (hK : ∀ t', (∀ u, u < 9 → t' u = T u) → Q .nrm ⟨t', upd H ko (some (outR tI r.ap (out ++ [r.l[i]]))), nx⟩) :
    wpc (PCalls P) P (fun _ => False) n0 (ref21_Keep_BC_j1 tI) Q ⟨T, H, nx⟩ := by
  have hmx : (maxLen : Int) = 9223372036854775807 := rfl
  have he := elem_itm (l := r.l) (n := (i : Int)) (by omega) (by simpa using hi)
  simp at he
  simp [ref21_Keep_BC_j1, e2, e6, e8, h2]
  repeat' first
    | refine And.intro ?_ ?_
    | (refine wLdT_ptr (row := outR tI r.ap out) (c := accV tI out) h6 (outR_1 _ _ _) (.inr n6) ?_; simp [e2, e6, e8, h2, he, d1, Itm.ag])
    | (simp [e2, e6, e8, h2, he, d1, Itm.ag]; done)
    | (show _ ≤ maxLen; unfold maxLen; omega)
    | omega
    | (refine wApp_acc rfl (by unfold maxLen; omega) (by omega) ?_; simp [e2, e6, e8, h2, he, d1, Itm.ag])
    | (refine sts_acc (tI := tI) (k := ko) (out := out ++ [r.l[i]]) (row := (outR tI r.ap out).set 1 (deep (out.map Itm.v))) (by simp) (by simp) (by simp) (.inr n6) (by simp) ?_; rw [outR_set]; simp; exact hK _ (fun u hu => by simp [show ¬ u = 61 by omega, show ¬ u = 60 by omega, show ¬ u = 59 by omega, show ¬ u = 58 by omega, show ¬ u = 57 by omega, show ¬ u = 56 by omega, show ¬ u = 55 by omega, show ¬ u = 54 by omega, show ¬ u = 53 by omega, show ¬ u = 52 by omega]))
    | (simp [e2, e6, e8, h2, he, d1, Itm.ag])
theorem rkeep_j2 {P : Program} {tI n0 : Nat} {T : Nat → Value} {H : Nat → Option (List Value)} {nx kr kx ko i : Nat} {r : Rcv} {x : Itm} {out : List Itm} {done : Bool} {Q : Ex → PS → Prop} (hi : i < r.l.length) (hlen : out.length ≤ 900) (hne : r.l[i].place ≠ x.place)
    (e2 : T 2 = ptr kr 0) (e3 : T 3 = ptr kx 0) (e6 : T 6 = ptr ko 0) (e7 : T 7 = .bool done) (e8 : T 8 = .int .i64 i) (h2 : H kr = some r.cells) (h3 : H kx = some x.cells) (h6 : H ko = some (outR tI r.ap out)) (n6 : n0 ≤ ko) (d1 : ¬ kr = ko) (d2 : ¬ kx = ko) (hinv : kInv r.l x i out done)
    (hK : ∀ t' out' done', (∀ u, u < 9 → u ≠ 7 → t' u = T u) → t' 7 = .bool done' → kInv r.l x (i + 1) out' done' → out'.length ≤ out.length + 2 → Q .nrm ⟨t', upd H ko (some (outR tI r.ap out')), nx⟩) :
    wpc (PCalls P) P (fun _ => False) n0 (ref21_Keep_BC_j2 tI) Q ⟨T, H, nx⟩ := by
  have hmx : (maxLen : Int) = 9223372036854775807 := rfl
  have he := elem_itm (l := r.l) (n := (i : Int)) (by omega) (by simpa using hi)
  simp at he
  have tt : ∀ {t : Nat → Value} {v : Value} {u k : Nat}, u < 9 → 9 ≤ k → upd t k v u = t u := fun {t v u k} h1 h2 => upd_ne _ _ (by omega)
  cases done with
  | true =>
    simp [ref21_Keep_BC_j2, e2, e3, e6, e7, e8, h2, h3, he]
    refine rkeep_j1 (kr := kr) (out := out) (r := r) (i := i) hi (by omega) (by simp [e2]) (by simp [e6]) (by simp [e8]) h2 h6 n6 d1 fun t' ht' => hK _ _ true (fun u hu _ => ?_) ?_ (kInv_more hinv hi hne (.inl rfl)) (by simp)
    · rw [ht' u hu]; repeat' (rw [tt hu (by omega)])
    · rw [ht' 7 (by omega)]; simp [e7]
  | false =>
    by_cases hlt : x.place < r.l[i].place
    · simp [ref21_Keep_BC_j2, e2, e3, e6, e7, e8, h2, h3, he, hlt]
      refine wLdT_ptr (row := outR tI r.ap out) (c := accV tI out) (by simp [h6]) (outR_1 _ _ _) (.inr n6) ?_
      simp [e2, e3, e6, h2, h3, h6, d1, d2, Itm.ag]
      refine wApp_acc rfl (by unfold maxLen; omega) (by omega) ?_
      simp [e2, e3, e6, h2, h3, h6, d1, d2]
      refine sts_acc (tI := tI) (k := ko) (out := out ++ [x]) (row := (outR tI r.ap out).set 1 (deep (out.map Itm.v))) (by simp) (by simp) (by simp) (.inr n6) (by simp) ?_
      rw [outR_set]
      simp [e2, e3, e6, e8, h2, h3, h6, d1, d2]
      refine rkeep_j1 (kr := kr) (ko := ko) (out := out ++ [x]) (r := r) (i := i) hi (by simp; omega) (by simp [e2]) (by simp [e6]) (by simp [e8]) (by simp [d1, h2]) (by simp) n6 d1 fun t' ht' => ?_
      rw [upd_upd]
      refine hK _ _ true (fun u hu hu7 => ?_) ?_ (kInv_ins hinv hi hlt) (by simp)
      · rw [ht' u hu]
        by_cases hu7' : u = 7
        · exact absurd hu7' hu7
        · simp only [upd_apply]
          simp [hu7', show ¬ u = 33 by omega, show ¬ u = 34 by omega, show ¬ u = 35 by omega, show ¬ u = 36 by omega, show ¬ u = 37 by omega, show ¬ u = 38 by omega, show ¬ u = 39 by omega, show ¬ u = 40 by omega, show ¬ u = 41 by omega, show ¬ u = 42 by omega, show ¬ u = 43 by omega, show ¬ u = 44 by omega, show ¬ u = 45 by omega, show ¬ u = 46 by omega, show ¬ u = 47 by omega, show ¬ u = 48 by omega, show ¬ u = 49 by omega, show ¬ u = 50 by omega, show ¬ u = 51 by omega]
      · rw [ht' 7 (by omega)]; simp
    · simp [ref21_Keep_BC_j2, e2, e3, e6, e7, e8, h2, h3, he, hlt]
      refine rkeep_j1 (kr := kr) (out := out) (r := r) (i := i) hi (by omega) (by simp [e2]) (by simp [e6]) (by simp [e8]) h2 h6 n6 d1 fun t' ht' => hK _ _ false (fun u hu _ => ?_) ?_ (kInv_more hinv hi hne (.inr (by omega))) (by simp)
      · rw [ht' u hu]; repeat' (rw [tt hu (by omega)])
      · rw [ht' 7 (by omega)]; simp [e7]
theorem rkeep_ok {P : Program} {f tI ro : Nat} (hc : compFnX P [1000000] f = some (91, ref21_Keep_BC tI ro, [.cA 4 2, .t 5])) (hro : RValOK P ro) : KeepOK P f := by
  intro r x hr hx hlen H nx
  refine PCalls_ofX hc (by simp) fun hw => ?_
  have hmx : (maxLen : Int) = 9223372036854775807 := rfl
  have a1 : ¬ nx = nx + 1 + 1 := by omega
  have a2 : ¬ nx + 1 = nx + 1 + 1 := by omega
  have a3 : ¬ nx = nx + 1 := by omega
  have a4 : nx ≤ nx + 1 + 1 := by omega
  have a5 : nx ≤ nx + 1 := by omega
  simp [ref21_Keep_BC, Rcv.ag, a1, a2, a3, a4, a5]
  refine wCallB_of (wCall_eq (Q := fun v => v = .bool r.val) (hro r (by omega) _ _) fun v n1 hv hn1 => ?_)
  subst hv
  simp at hn1
  cases h1 : r.val with
  | false =>
    simp [a1, a2, a3, a4, a5]
    exact wF_own hw (by simp [a4, a5]) ⟨by rw [keepV_err (e := 5) (by simp [keepE, h1]) (by omega)]; rfl, rfl⟩
  | true =>
    have hval := h1
    simp only [Rcv.val, Bool.and_eq_true, decide_eq_true_eq] at hval
    obtain ⟨⟨⟨g1, g2⟩, g3⟩, g4⟩ := hval
    have b1 : ¬ nx = n1 := by omega
    have b2 : ¬ nx + 1 = n1 := by omega
    have b3 : ¬ nx + 1 + 1 = n1 := by omega
    simp [ref21_Keep_BC_j6, a1, a2, a3, a4, a5, b1, b2, b3, show nx ≤ n1 by omega]
    obtain ⟨I, hI⟩ : ∃ I : PS → Prop, ∀ s, I s ↔ (∃ (i : Nat) (out : List Itm) (done : Bool), i ≤ r.l.length ∧ s.t 2 = ptr nx 0 ∧ s.t 3 = ptr (nx + 1) 0 ∧ s.t 4 = ptr (nx + 1 + 1) 0 ∧ s.t 6 = ptr n1 0 ∧ s.t 7 = .bool done ∧ s.t 8 = .int .i64 i ∧
        s.H nx = some r.cells ∧ s.H (nx + 1) = some x.cells ∧ s.H (nx + 1 + 1) = some [.int .i64 0, lin tI []] ∧ s.H n1 = some (outR tI r.ap out) ∧ Own nx H s.H ∧ kInv r.l x i out done) := ⟨_, fun _ => Iff.rfl⟩
    refine wpc_loop _ _ _ _ _ _ I (fun s => match s.t 8 with | .int _ i => (r.l.length - i).toNat | _ => 0) _ ((hI _).2 ⟨0, [], false, by omega, by simp, by simp, by simp, by simp, by simp, by simp, by simp [b1, a1, a3], by simp [b2, a2], by simp [b3], by simp [outR, accV], by simp [a4, a5, show nx ≤ n1 by omega], kInv_0 _ _⟩) ?_
    rintro ⟨T, H', nx'⟩ hs
    obtain ⟨i, out, done, hi, e2, e3, e4, e6, e7, e8, k2, k3, k4, k6, hown, hinv⟩ := (hI _).1 hs
    simp only at e2 e3 e4 e6 e7 e8 k2 k3 k4 k6 hown
    simp [e2, e8, k2]
    refine wB_of (fun hlt => ?_) (fun hlt => ?_)
    · simp at hlt
      have he := elem_itm (l := r.l) (n := (i : Int)) (by omega) (by simpa using hlt)
      simp at he
      have hw1 := w64 (x := (i : Int) + 1) (by omega) (by omega)
      by_cases hq : r.l[i].place = x.place
      · have h3 : hasP r.l x.place = true := by
          unfold hasP
          rw [List.any_eq_true]
          exact ⟨_, List.getElem_mem hlt, by simpa using hq⟩
        simp [ref21_Keep_BC_j3, e2, e3, e4, e8, k2, k3, k4, he, hq, a4]
        exact wF_own hw (by simp [a4, hown]) ⟨by rw [keepV_err (e := 10) (by simp [keepE, h1, h3]) (by omega)]; rfl, rfl⟩
      · have hq' : (r.l[i].place == x.place) = false := by simpa using hq
        simp [ref21_Keep_BC_j3, e2, e3, e4, e8, k2, k3, k4, he, hq']
        refine rkeep_j2 (kr := nx) (kx := nx + 1) (ko := n1) (r := r) (x := x) (i := i) (out := out) (done := done) hlt (by have := hinv.1; omega) hq (by simp [e2]) (by simp [e3]) (by simp [e6]) (by simp [e7]) (by simp [e8]) k2 k3 k6 (by omega) b1 b2 hinv fun t' out' done' ht' h7 hinv' hl' => ?_
        have ht : ∀ u, u < 9 → u ≠ 7 → t' u = T u := fun u hu hu7 => by
          rw [ht' u hu hu7]
          simp only [upd_apply]
          simp [show ¬ u = 16 by omega, show ¬ u = 17 by omega, show ¬ u = 18 by omega, show ¬ u = 19 by omega, show ¬ u = 20 by omega, show ¬ u = 23 by omega, show ¬ u = 24 by omega, show ¬ u = 25 by omega, show ¬ u = 26 by omega, show ¬ u = 27 by omega, show ¬ u = 28 by omega, show ¬ u = 29 by omega, show ¬ u = 30 by omega, show ¬ u = 31 by omega]
        have f8 := (ht 8 (by omega) (by omega)).trans e8
        simp [f8, hw1]
        refine kLoop_nrm _ _ _ _ (Sub_refl _ _) ((hI _).2 ⟨i + 1, out', done', by omega, ?_, ?_, ?_, ?_, by simp [h7], by simp, by simp [b1, k2], by simp [b2, k3], by simp [b3, k4], by simp, by simp [show nx ≤ n1 by omega, hown], hinv'⟩) (by simp; omega)
        · simpa using (ht 2 (by omega) (by omega)).trans e2
        · simpa using (ht 3 (by omega) (by omega)).trans e3
        · simpa using (ht 4 (by omega) (by omega)).trans e4
        · simpa using (ht 6 (by omega) (by omega)).trans e6
    · simp at hlt
      obtain rfl : i = r.l.length := by omega
      obtain ⟨c1, c2, c3⟩ := kInv_end hinv
      refine rkeep_j5 (kr := nx) (kx := nx + 1) (kv := nx + 1 + 1) (ko := n1) (r := r) (x := x) (out := out) (done := done) g1 g2 (by have := hinv.1; omega) (by simp [e2]) (by simp [e3]) (by simp [e4]) (by simp [e6]) (by simp [e7]) k2 k3 k4 k6 a4 (by omega) b1 b2 b3 fun t' H2 d0 d1' out' f4 f5 f50 f51 hH hcase => ?_
      have hown' : Own nx H H2 := fun k hk => by rw [hH k (by omega) (by omega)]; exact hown k hk
      have hv : keepV r x = tup [out'.v, t' 5] := by
        rcases hcase with ⟨q1, q2, rfl⟩ | ⟨q1, q2, q3, rfl⟩ | ⟨q1, q2, q3, q4, rfl⟩ | ⟨q1, q2, q3, q4, rfl⟩
        · rw [keepV_err (e := 10) (by simp [keepE, h1, q1]) (by omega), q2]; rfl
        · rw [keepV_err (e := 11) (by simp [keepE, h1, show ¬ x.place ≤ r.ap by omega, c1, q2]) (by omega), q3]; rfl
        · rw [keepV_err (e := 1) (by simp [keepE, h1, show ¬ x.place ≤ r.ap by omega, c1, show ¬ r.ap + 8 < x.place by omega, q3]) (by omega), q4]; rfl
        · rw [keepV_ok (by simp [keepE, h1, show ¬ x.place ≤ r.ap by omega, c1, show ¬ r.ap + 8 < x.place by omega, show ¬ 4096 < x.place by omega]), q4]
          cases done with
          | true => rw [c3 rfl]; rfl
          | false => rw [c2 rfl]; rfl
      simp [f4, f5, f50, f51]
      refine wF_own hw hown' ⟨?_, rfl⟩
      rw [hv]; rfl
end Go.PE
namespace Go.PE
open Go
def rdyB (r : Rcv) : Bool := r.val && (match r.l with | [] => false | x :: _ => x.place == r.ap + 1)
def rdyI (r : Rcv) : Itm := if rdyB r then (match r.l with | [] => zItm | x :: _ => x) else zItm
def rdyV (r : Rcv) : Value := tup [(rdyI r).v, .bool (rdyB r)]
def appV (r : Rcv) : Rcv := if rdyB r then ⟨r.ap + 1, r.l.drop 1⟩ else r
def ReadyOK (P : Program) (f : Nat) : Prop := ∀ (r : Rcv), r.ok → r.l.length ≤ 1000000 → ∀ (H : Nat → Option (List Value)) (nx : Nat), PCalls P f [r.v] H nx (fun _ => False) (fun v H' _ => v = rdyV r ∧ H' = H)
def AppliedOK (P : Program) (f : Nat) : Prop := ∀ (r : Rcv), r.ok → r.l.length ≤ 1000000 → ∀ (H : Nat → Option (List Value)) (nx : Nat), PCalls P f [r.v] H nx (fun _ => False) (fun v H' _ => v = (appV r).v ∧ H' = H)
theorem rdyV_no {r : Rcv} (h : rdyB r = false) : rdyV r = tup [zItm.v, .bool false] := by simp [rdyV, rdyI, h]
theorem val_rng {r : Rcv} (h : r.val = true) : 0 ≤ r.ap ∧ r.ap ≤ 4096 ∧ r.l.length ≤ 8 := by
  simp only [Rcv.val, Bool.and_eq_true, decide_eq_true_eq] at h
  exact ⟨h.1.1.1, h.1.1.2, h.1.2⟩
theorem asL_one {x : Itm} {v : Value} (h : asL Itm.v [x] v) : v = deep [x.v] := by
  rcases h with ⟨_, h⟩ | h
  · cases h
  · exact h
theorem ready_ok {P : Program} {f t va cp : Nat} (hc : compFn P f = some (31, receiver_ReadyC t va cp, [.cA 2 68, .t 3])) (hva : RValOK P va) (hcp : CopyItOK P cp) : ReadyOK P f := by
  intro r hr hlen H nx
  refine PCalls_of hc (by simp) fun hw => ?_
  have hmx : (maxLen : Int) = 9223372036854775807 := rfl
  have a1 : ¬ nx = nx + 1 := by omega
  have a2 : nx ≤ nx + 1 := by omega
  simp [receiver_ReadyC, Rcv.ag, a1, a2]
  refine wqCall_of (hva r (by omega) _ _) rfl (fun _ _ _ h => h.1) ?_
  cases h1 : r.val with
  | false =>
    simp [a1, a2, Itm.fold0]
    exact wF_own hw (by simp [a2]) ⟨by rw [rdyV_no (by simp [rdyB, h1])]; rfl, rfl⟩
  | true =>
    obtain ⟨g1, g2, g3⟩ := val_rng h1
    have hw1 := w64 (x := r.ap + 1) (by omega) (by omega)
    obtain ⟨ap, l⟩ := r
    cases l with
    | nil =>
      simp [a1, a2, Itm.fold0]
      exact wF_own hw (by simp [a2]) ⟨by rw [rdyV_no (by simp [rdyB])]; rfl, rfl⟩
    | cons x l =>
      have he := elem_itm (l := x :: l) (n := 0) (by omega) (by simp)
      simp at he g1 g2 hw1
      have hnz : ((l.length : Int) + 1 == 0) = false := by simp; omega
      by_cases h2 : x.place = ap + 1
      · have hx : rdyV ⟨ap, x :: l⟩ = tup [x.v, .bool true] := by simp [rdyV, rdyI, rdyB, h1, h2]
        have hcut : cutV (x.v :: l.map Itm.v) 0 1 (l.length + 1) 68 = some (deep [x.v]) := by
          unfold cutV
          rw [if_pos ⟨by omega, by omega, by simp, fun y hy => by obtain ⟨a, _, rfl⟩ := List.mem_map.1 (show y ∈ (x :: l).map Itm.v from hy); simp⟩]
          simp
        simp [a1, a2, hnz, he, hw1, h2, receiver_ReadyC_j1]
        simp [hcut]
        refine wCall_eq (Q := fun v => asL Itm.v [x] v) (hcp [x] _ _ (by simp) (fun y hy => by simp at hy; subst hy; exact (hr.2 _ (by simp)).2.2)) fun v n1 hv hn1 => ?_
        obtain rfl := asL_one hv
        have he1 := elem_itm (l := [x]) (n := 0) (by omega) (by simp)
        simp at he1
        simp [he1, a1, a2, Itm.ag]
        exact wF_own hw (by simp [a2]) ⟨by rw [hx]; rfl, rfl⟩
      · have h2' : (x.place != ap + 1) = true := by simpa using h2
        simp [a1, a2, hnz, he, hw1, h2', Itm.fold0]
        exact wF_own hw (by simp [a2]) ⟨by rw [rdyV_no (by simp [rdyB, h2])]; rfl, rfl⟩
theorem rready_ok {P : Program} {f t va : Nat} (hc : compFn P f = some (29, ref21_ReadyC t va, [.cA 2 68, .t 3])) (hva : RValOK P va) : ReadyOK P f := by
  intro r hr hlen H nx
  refine PCalls_of hc (by simp) fun hw => ?_
  have hmx : (maxLen : Int) = 9223372036854775807 := rfl
  have a1 : ¬ nx = nx + 1 := by omega
  have a2 : nx ≤ nx + 1 := by omega
  simp [ref21_ReadyC, Rcv.ag, a1, a2]
  refine wqCall_of (hva r (by omega) _ _) rfl (fun _ _ _ h => h.1) ?_
  cases h1 : r.val with
  | false =>
    simp [a1, a2, Itm.fold0]
    exact wF_own hw (by simp [a2]) ⟨by rw [rdyV_no (by simp [rdyB, h1])]; rfl, rfl⟩
  | true =>
    obtain ⟨g1, g2, g3⟩ := val_rng h1
    have hw1 := w64 (x := r.ap + 1) (by omega) (by omega)
    obtain ⟨ap, l⟩ := r
    cases l with
    | nil =>
      simp [a1, a2, Itm.fold0]
      exact wF_own hw (by simp [a2]) ⟨by rw [rdyV_no (by simp [rdyB])]; rfl, rfl⟩
    | cons x l =>
      have he := elem_itm (l := x :: l) (n := 0) (by omega) (by simp)
      simp at he g1 g2 hw1
      have hnz : ((l.length : Int) + 1 == 0) = false := by simp; omega
      by_cases h2 : x.place = ap + 1
      · have hx : rdyV ⟨ap, x :: l⟩ = tup [x.v, .bool true] := by simp [rdyV, rdyI, rdyB, h1, h2]
        simp [a1, a2, hnz, he, hw1, h2, ref21_ReadyC_j1, Itm.ag]
        exact wF_own hw (by simp [a2]) ⟨by rw [hx]; rfl, rfl⟩
      · have h2' : (x.place != ap + 1) = true := by simpa using h2
        simp [a1, a2, hnz, he, hw1, h2', Itm.fold0]
        exact wF_own hw (by simp [a2]) ⟨by rw [rdyV_no (by simp [rdyB, h2])]; rfl, rfl⟩
theorem cut_itm {l l' : List Itm} (h : 1 ≤ l.length) (hl : l' = l.drop 1) : cutV (l.map Itm.v) 1 l.length l.length 68 = some (deep (l'.map Itm.v)) := by
  subst hl
  unfold cutV
  rw [if_pos ⟨h, by omega, by simp, fun x hx => by obtain ⟨a, _, rfl⟩ := List.mem_map.1 hx; simp⟩]
  rw [List.take_of_length_le (by simp), List.map_drop]
theorem rdy_at {r : Rcv} (h : rdyB r = true) : 0 ≤ r.ap ∧ r.ap ≤ 4096 ∧ 1 ≤ r.l.length ∧ r.l.length ≤ 8 := by
  unfold rdyB at h
  simp only [Bool.and_eq_true] at h
  obtain ⟨g1, g2, g3⟩ := val_rng h.1
  refine ⟨g1, g2, ?_, g3⟩
  cases hl : r.l with
  | nil => rw [hl] at h; simp at h
  | cons a l => simp
theorem rapplied_ok {P : Program} {f tI rd u : Nat} (hc : compFn P f = some (22, ref21_AppliedC tI rd u, [.cA 2 2])) (hrd : ReadyOK P rd) : AppliedOK P f := by
  intro r hr hlen H nx
  refine PCalls_of hc (by simp) fun hw => ?_
  have hmx : (maxLen : Int) = 9223372036854775807 := rfl
  have a1 : ¬ nx = nx + 1 := by omega
  have a2 : nx ≤ nx + 1 := by omega
  simp [ref21_AppliedC, Rcv.ag, a1, a2]
  refine wCall_eq (Q := fun v => v = rdyV r) (hrd r hr hlen _ _) fun v n1 hv hn1 => ?_
  subst hv
  simp at hn1
  have b1 : ¬ nx = n1 := by omega
  have b2 : ¬ nx + 1 = n1 := by omega
  have b3 : nx ≤ n1 := by omega
  cases h1 : rdyB r with
  | false =>
    simp [rdyV, h1, a1, a2, b1, b2, b3, Rcv.ag]
    exact wF_own hw (by simp [a2, b3]) ⟨by simp [appV, h1], rfl⟩
  | true =>
    obtain ⟨g1, g2, g3, g4⟩ := rdy_at h1
    have hw1 := w64 (x := r.ap + 1) (by omega) (by omega)
    obtain ⟨l', hl'⟩ : ∃ l', l' = r.l.drop 1 := ⟨_, rfl⟩
    have hll : l'.length ≤ 8 := by rw [hl', List.length_drop]; omega
    have hcut := cut_itm g3 hl'
    simp [rdyV, h1, a1, a2, b1, b2, b3, ref21_AppliedC_j1, hw1, hcut, g3]
    refine ⟨by unfold maxLen; omega, by omega, ?_⟩
    exact wF_own hw (by simp [a2, b3]) ⟨by rw [appV, h1, ← hl']; rfl, rfl⟩
theorem sts_deep {C : Known} {P : Program} {T : Nat → Prop} {n0 : Nat} {x : Operand} {t k off : Nat} {row xs : List Value} {s : PS} {K : PS → Prop} (hx : s.ev x = ptr k off) (hk : s.H k = some row) (ho : off < row.length) (hT : T k ∨ n0 ≤ k) (ht : s.t t = deep xs)
    (h : K ⟨upd s.t t (deep xs), upd s.H k (some (row.set off (deep xs))), s.nx⟩) : PE.step C P T n0 none (.sts x t) s K := by
  refine ⟨k, off, row, hx, hk, ho, hT, fun ps h => ?_, fun ps h => ?_, ?_⟩
  · rw [ht] at h; simp [deep] at h
  · rw [ht] at h; simp [deep] at h
  · rw [ht]; exact h
theorem applied_ok {P : Program} {f tI cp rd u : Nat} (hc : compFn P f = some (27, receiver_AppliedC tI cp rd u, [.cA 2 2])) (hrd : ReadyOK P rd) (hcp : CopyItOK P cp) : AppliedOK P f := by
  intro r hr hlen H nx
  refine PCalls_of hc (by simp) fun hw => ?_
  have hmx : (maxLen : Int) = 9223372036854775807 := rfl
  have a1 : ¬ nx = nx + 1 := by omega
  have a2 : nx ≤ nx + 1 := by omega
  have a3 : ¬ nx = nx + 1 + 1 := by omega
  have a4 : ¬ nx + 1 = nx + 1 + 1 := by omega
  have a5 : nx ≤ nx + 1 + 1 := by omega
  have hfin : ∀ x ∈ r.l, x.fin := fun x hx => (hr.2 x hx).2.2
  -- behind the first region
  have rest : ∀ (T : Nat → Value) (H' : Nat → Option (List Value)) (n3 ko : Nat), T 1 = ptr nx 0 → T 2 = ptr (nx + 1) 0 → T 3 = ptr ko 0 → H' nx = some r.cells → H' (nx + 1) = some [.int .i64 0, lin tI []] → H' ko = some [.int .i64 r.ap, deep (r.l.map Itm.v)] → nx + 1 < ko → ko < n3 → Own nx H H' →
      wpc (PCalls P) P (fun _ => False) nx (receiver_AppliedC_j1 rd u) (fin nx [.cA 2 2] (fun v H' _ => v = (appV r).v ∧ H' = H)) ⟨T, H', n3⟩ := by
    intro T H' n3 ko e1 e2 e3 k1 k2 k3 hko1 hko2 hown
    simp [receiver_AppliedC_j1, e1, k1, Rcv.ag]
    refine wCall_eq (Q := fun v => v = rdyV r) (hrd r hr hlen _ _) fun w n4 hw' hn4 => ?_
    subst hw'
    simp at hn4
    have c1 : ¬ nx = n4 := by omega
    have c2 : ¬ nx + 1 = n4 := by omega
    have c3 : ¬ ko = n4 := by omega
    have c4 : nx ≤ n4 := by omega
    have c5 : ¬ ko = nx + 1 := by omega
    have c6 : nx ≤ ko := by omega
    have c7 : ¬ nx + 1 = ko := by omega
    cases h1 : rdyB r with
    | false =>
      simp [rdyV, h1, e2, e3, k2, k3, a2, c1, c2, c3, c4, c5, c6, c7]
      exact wF_own hw (by simp [a2, c4, c6, hown]) ⟨by simp [appV, h1]; rfl, rfl⟩
    | true =>
      obtain ⟨g1, g2, g3, g4⟩ := rdy_at h1
      have hw1 := w64 (x := r.ap + 1) (by omega) (by omega)
      obtain ⟨l', hl'⟩ : ∃ l', l' = r.l.drop 1 := ⟨_, rfl⟩
      have hcut := cut_itm g3 hl'
      simp [rdyV, h1, e2, e3, k2, k3, a2, c1, c2, c3, c4, c5, c6, c7, hw1, hcut, g3]
      refine sts_deep (k := ko) (off := 1) (row := [.int .i64 (r.ap + 1), deep (r.l.map Itm.v)]) (by simp) (by simp) (by simp) (.inr (by omega)) (by simp; rfl) ?_
      simp [e2, e3, k2, c1, c2, c3, c4, c5, c6, c7, a2]
      exact wF_own hw (by simp [a2, c4, c6, hown]) ⟨by rw [appV, h1, ← hl']; rfl, rfl⟩
  simp [receiver_AppliedC, Rcv.ag, a1, a2, a3, a4, a5]
  repeat' first
    | refine And.intro ?_ ?_
    | (refine wCall_eq (Q := fun v => asL Itm.v r.l v) (hcp r.l _ _ hlen hfin) fun v n1 hv hn1 => ?_; obtain ⟨q1, q2, q3⟩ := asL_dg hv; dsimp only at hn1; simp [a1, a2, a3, a4, a5, q1, q2, q3, show nx ≤ n1 by omega, show ¬ nx = n1 by omega])
    | (refine rest _ _ _ (nx + 1 + 1) (by simp) (by simp) (by simp) (by simp [a1, a2, a3, a4, a5]) (by simp [a1, a2, a3, a4, a5]) (by simp) (by omega) (by omega) (by simp [a1, a2, a3, a4, a5]))
    | (refine rest _ _ _ n1 (by simp) (by simp) (by simp) (by simp [show ¬ nx = n1 by omega, a1]) (by simp [show ¬ nx + 1 = n1 by omega]) (by simp) (by omega) (by omega) (by simp [a2, show nx ≤ n1 by omega]))
/-! the same items, receivers -/
def SmItOK (P : Program) (f : Nat) : Prop := ∀ (x : Itm), x.wf → ∀ (H : Nat → Option (List Value)) (nx : Nat), PCalls P f [x.v, x.v] H nx (fun _ => False) (fun v H' _ => v = .bool true ∧ H' = H)
theorem smIt_ok {P : Program} {f sm : Nat} (hc : compFn P f = some (45, ref18_SameItemC sm, [.t 4])) (hsm : BEqOK P sm) : SmItOK P f := by
  intro x hx H nx
  refine PCalls_of hc (by simp) fun hw => ?_
  have a1 : ¬ nx = nx + 1 := by omega
  have a2 : nx ≤ nx + 1 := by omega
  have h1 : sameB x.bx x.bx = true := sameB_iff.2 rfl
  simp [ref18_SameItemC, a1, a2, -List.reduceReplicate]
  refine wCall_eq (Q := fun v => v = .bool (sameB x.bx x.bx)) (hsm _ _ hx hx _ _) fun v n1 hv hn1 => ?_
  subst hv
  simp [h1]
  exact wF_own hw (by simp [a2]) ⟨rfl, rfl⟩
def SmItsOK (P : Program) (f : Nat) : Prop := ∀ (l : List Itm), (∀ x ∈ l, x.wf) → l.length ≤ 1000000 → ∀ (H : Nat → Option (List Value)) (nx : Nat), PCalls P f [deep (l.map Itm.v), deep (l.map Itm.v)] H nx (fun _ => False) (fun v H' _ => v = .bool true ∧ H' = H)
theorem smIts_ok {P : Program} {f sm : Nat} (hc : compFn P f = some (27, ref21_SameItemsC sm, [.t 4])) (hsm : SmItOK P sm) : SmItsOK P f := by
  intro l hl hlen H nx
  refine PCalls_of hc (by simp) fun hw => ?_
  have hmx : (maxLen : Int) = 9223372036854775807 := rfl
  simp [ref21_SameItemsC, ref21_SameItemsC_j2]
  refine wpc_loop _ _ _ _ _ _ (fun s => ∃ i : Nat, i ≤ l.length ∧ s.t 0 = deep (l.map Itm.v) ∧ s.t 1 = deep (l.map Itm.v) ∧ s.t 5 = .int .i64 i ∧ s.H = H)
    (fun s => match s.t 5 with | .int _ i => (l.length - i).toNat | _ => 0) _ ⟨0, by omega, by simp, by simp, by simp, rfl⟩ ?_
  rintro ⟨T, H', nx'⟩ ⟨i, hi, e0, e1, e5, rfl⟩
  simp only at e0 e1 e5
  simp [e0, e5]
  refine wB_of (fun hlt => ?_) (fun hlt => ?_)
  · simp at hlt
    have he := elem_itm (l := l) (n := (i : Int)) (by omega) (by simpa using hlt)
    simp at he
    have hw1 := w64 (x := (i : Int) + 1) (by omega) (by omega)
    simp [ref21_SameItemsC_j1, e0, e1, e5, he, Itm.ag]
    refine wqCall_of (hsm _ (hl _ (List.getElem_mem hlt)) _ _) rfl (fun _ _ _ h => h.1) ?_
    simp [e5, hw1]
    refine kLoop_nrm _ _ _ _ (Sub_refl _ _) ⟨i + 1, by omega, by simp [e0], by simp [e1], by simp, rfl⟩ (by simp; omega)
  · exact wF_own hw (by simp) ⟨rfl, rfl⟩
def SmRcOK (P : Program) (f : Nat) : Prop := ∀ (r : Rcv), r.wf → r.l.length ≤ 1000000 → ∀ (H : Nat → Option (List Value)) (nx : Nat), PCalls P f [r.v, r.v] H nx (fun _ => False) (fun v H' _ => v = .bool true ∧ H' = H)
theorem smRc_ok {P : Program} {f sm : Nat} (hc : compFn P f = some (17, ref21_SameReceiverC sm, [.t 4])) (hsm : SmItsOK P sm) : SmRcOK P f := by
  intro r hr hlen H nx
  refine PCalls_of hc (by simp) fun hw => ?_
  have a1 : ¬ nx = nx + 1 := by omega
  have a2 : nx ≤ nx + 1 := by omega
  simp [ref21_SameReceiverC, a1, a2]
  refine wCall_eq (Q := fun v => v = .bool true) (hsm _ hr hlen _ _) fun v n1 hv hn1 => ?_
  subst hv
  simp
  exact wF_own hw (by simp [a2]) ⟨rfl, rfl⟩
end Go.PE
namespace Go.PE
open Go
def itP (p n : Int) : Itm := ⟨p, 0, n, zTag, [], zTag⟩
theorem itP_ok (p n : Int) (h : inI64 p) : (itP p n).ok := ⟨by simp [Itm.wf, itP, inBytes], h, by simp [itP, Itm.fin]⟩
theorem itP_v (p n : Int) : PE.ag (.int .i64 p :: .int .i64 0 :: .int .i64 n :: (zTag.cells ++ deep [] :: zTag.cells)) = (itP p n).v := rfl
theorem nil_ok (ap : Int) (h : inI64 ap) : (Rcv.mk ap []).ok := ⟨h, by simp⟩
def aw1 : Rcv := ⟨0, [itP 2 0]⟩
def aw2 : Rcv := ⟨0, [itP 1 0, itP 2 0]⟩
def aw3 : Rcv := ⟨1, [itP 2 0]⟩
theorem aw_k1 : keepV ⟨0, []⟩ (itP 2 0) = tup [aw1.v, .int .i64 0] := by
  have h : keepE ⟨0, []⟩ (itP 2 0) = 0 := by decide
  rw [keepV_ok h]; rfl
theorem aw_k2 : keepV aw1 (itP 1 0) = tup [aw2.v, .int .i64 0] := by
  have h : keepE aw1 (itP 1 0) = 0 := by decide
  rw [keepV_ok h]; rfl
theorem aw_r2 : rdyV aw2 = tup [(itP 1 0).v, .bool true] := rfl
theorem aw_a2 : appV aw2 = aw3 := rfl
theorem aw_r3 : rdyV aw3 = tup [(itP 2 0).v, .bool true] := rfl
theorem aw1_ok : aw1.ok := ⟨by simp [aw1, inI64], by simp [aw1]; exact itP_ok _ _ (by simp [inI64])⟩
theorem aw2_ok : aw2.ok := ⟨by simp [aw2, inI64], by simp [aw2]; exact ⟨itP_ok _ _ (by simp [inI64]), itP_ok _ _ (by simp [inI64])⟩⟩
theorem aw3_ok : aw3.ok := ⟨by simp [aw3, inI64], by simp [aw3]; exact itP_ok _ _ (by simp [inI64])⟩
def Aw25OK (P : Program) (f : Nat) : Prop := ∀ (H : Nat → Option (List Value)) (nx : Nat), PCalls P f [] H nx (fun _ => False) (fun r H' _ => r = .bool true ∧ H' = H)
theorem aw25_ok {P : Program} {f ke tI rd u ap : Nat} (hc : compFn P f = some (53, law25_awakeC ke tI rd u ap, [.t 0])) (hke : KeepOK P ke) (hrd : ReadyOK P rd) (hap : AppliedOK P ap) : Aw25OK P f := by
  intro H nx
  refine PCalls_of hc (by simp) fun hw => ?_
  have hmx : (maxLen : Int) = 9223372036854775807 := rfl
  simp [law25_awakeC, -List.reduceReplicate, itP_v]
  refine wCall_eq (Q := fun r => r = keepV ⟨0, []⟩ (itP 2 0)) (hke ⟨0, []⟩ (itP 2 0) (nil_ok _ (by simp [inI64])) (itP_ok _ _ (by simp [inI64])) (by simp) _ _) fun r n1 hr hn1 => ?_
  rw [aw_k1] at hr; subst hr
  simp at hn1
  simp [-List.reduceReplicate, itP_v, Rcv.ag]
  refine ⟨hn1, ?_⟩
  refine wCall_eq (Q := fun r => r = keepV aw1 (itP 1 0)) (hke aw1 (itP 1 0) aw1_ok (itP_ok _ _ (by simp [inI64])) (by simp [aw1]) _ _) fun r n2 hr hn2 => ?_
  rw [aw_k2] at hr; subst hr
  simp at hn2
  simp [-List.reduceReplicate, itP_v, Rcv.ag]
  refine ⟨hn1, ?_⟩
  refine wCall_eq (Q := fun r => r = rdyV aw2) (hrd aw2 aw2_ok (by simp [aw2]) _ _) fun r n3 hr hn3 => ?_
  rw [aw_r2] at hr; subst hr
  simp at hn3
  have b1 : ¬ n1 = n3 := by omega
  simp [-List.reduceReplicate, itP_v, Rcv.ag, b1, show nx ≤ n3 by omega]
  refine wCall_eq (Q := fun r => r = (appV aw2).v) (hap aw2 aw2_ok (by simp [aw2]) _ _) fun r n4 hr hn4 => ?_
  rw [aw_a2] at hr; subst hr
  simp at hn4
  simp [-List.reduceReplicate]
  refine wCall_eq (Q := fun r => r = rdyV aw3) (hrd aw3 aw3_ok (by simp [aw3]) _ _) fun r n5 hr hn5 => ?_
  rw [aw_r3] at hr; subst hr
  simp at hn5
  have b2 : ¬ n3 = n5 := by omega
  simp [-List.reduceReplicate, b2, show nx ≤ n5 by omega, show nx ≤ n3 by omega]
  simp [itP]
  exact wF_own hw (by simp [hn1, show nx ≤ n5 by omega, show nx ≤ n3 by omega]) ⟨rfl, rfl⟩
end Go.PE
namespace Go.PE
open Go
theorem wF_dr {ps : List Value} {nx nx' k : Nat} {l : List Int} {at' : Int} {Q : Value → Prop} {H H' : Nat → Option (List Value)} (hw : ∀ k, nx ≤ k → H k = none) (hkn : k < nx) (ha : 0 ≤ at')
    (h : ∀ j, j < nx → H' j = upd H k (some (dk l at')) j) (hQ : Q (oneOr ps)) : wF (some ps) nx (fun p H' _ => Q p ∧ Drew H k l H') H' nx' :=
  wF_sub (H1 := upd H k (some (dk l at'))) (fun j => by
    rcases Nat.lt_or_ge j nx with hj | hj
    · exact .inl (h j hj).symm
    · exact .inr ⟨hj, by rw [upd_ne _ _ (by omega)]; exact hw j hj⟩) ⟨hQ, at', ha, rfl⟩
def allServed : PT → Bool
  | .done => true
  | .one x r => served x && allServed r
  | .alt a b => allServed a && allServed b
theorem wpt_mono {P : Program} {T : Nat → Prop} {n0 : Nat} {K K' : PS → Prop} (hK : ∀ s, K s → K' s) : ∀ (t : PT) (s : PS), allServed t = true → wpt P T n0 t K s → wpt P T n0 t K' s
  | .done, s, _, h => hK s h
  | .one x r, s, hs, h => by
    unfold allServed at hs
    rw [Bool.and_eq_true] at hs
    exact (gstep_frm P T n0 x hs.1).mono (fun s1 h1 => wpt_mono hK r s1 hs.2 h1) h
  | .alt a b, s, hs, h => by
    unfold allServed at hs
    rw [Bool.and_eq_true] at hs
    exact ⟨wpt_mono hK a s hs.1 h.1, wpt_mono hK b s hs.2 h.2⟩
def MadeR (x : Rcv) : Prop := x.ok ∧ x.l.length ≤ 9 ∧ 0 ≤ x.ap ∧ x.ap ≤ 4096
theorem keepE_val {r : Rcv} {x : Itm} (h : keepE r x = 0) : r.val = true := by
  unfold keepE at h
  cases hv : r.val with
  | true => rfl
  | false => rw [hv] at h; simp at h
theorem insI_mem {l : List Itm} {x y : Itm} (h : y ∈ insI l x) : y = x ∨ y ∈ l := by
  unfold insI at h
  rcases List.mem_append.1 h with h | h
  · exact .inr (List.takeWhile_subset _ h)
  · rcases List.mem_cons.1 h with h | h
    · exact .inl h
    · exact .inr (List.dropWhile_subset _ h)
theorem insI_len (l : List Itm) (x : Itm) : (insI l x).length = l.length + 1 := by
  unfold insI
  rw [List.length_append, List.length_cons, ← Nat.add_assoc, ← List.length_append, List.takeWhile_append_dropWhile]
theorem MadeR.keep {r : Rcv} {x : Itm} (h : MadeR r) (hx : x.ok) (he : keepE r x = 0) : MadeR (keepR r x) := by
  obtain ⟨g1, g2, g3⟩ := val_rng (keepE_val he)
  unfold keepR
  rw [if_pos he]
  refine ⟨⟨h.1.1, fun y hy => ?_⟩, ?_, g1, g2⟩
  · rcases insI_mem hy with rfl | hy
    · exact hx
    · exact h.1.2 y hy
  · show (insI r.l x).length ≤ 9
    rw [insI_len]; omega
def isMadeR (v : Value) : Prop := ∃ x : Rcv, v = x.v ∧ MadeR x
structure MadeP (t0 : Nat → Value) (H0 : Nat → Option (List Value)) (x : Rcv) (l : List Int) (k nx0 : Nat) (s : PS) : Prop where
  t : ∀ u, u < 5 → s.t u = t0 u
  y : ∃ (i : Itm) (ky : Nat), i.ok ∧ s.t 5 = ptr ky 0 ∧ s.t 6 = .int .i64 (keepE x i) ∧ nx0 ≤ ky ∧ s.H ky = some (keepR x i).cells
  d : ∃ at' : Int, 0 ≤ at' ∧ s.H k = some (dk l at')
  o : ∀ j, j < nx0 → j ≠ k → s.H j = H0 j
  n : nx0 ≤ s.nx
theorem t5 {t0 t : Nat → Value} (h0 : t 0 = t0 0) (h1 : t 1 = t0 1) (h2 : t 2 = t0 2) (h3 : t 3 = t0 3) (h4 : t 4 = t0 4) : ∀ u, u < 5 → t u = t0 u := fun u hu => by
  match u, hu with
  | 0, _ => exact h0
  | 1, _ => exact h1
  | 2, _ => exact h2
  | 3, _ => exact h3
  | 4, _ => exact h4
set_option maxHeartbeats 4000000 in
theorem made_t1 {P : Program} {tI nx_ rg ke n0 k nx' n1 : Nat} {t : Nat → Value} {H' : Nat → Option (List Value)} {x : Rcv} {l : List Int} {at' : Int} (hn : NextW P nx_) (hrg : ∀ lo hi : Int, 0 ≤ lo → lo ≤ hi → hi < 4611686018427387904 → Draws P rg [.int .i64 lo, .int .i64 hi] (isI lo hi))
    (hke : KeepOK P ke) (hx : MadeR x) (hl : l.length ≤ maxLen) (hat' : 0 ≤ at') (f0 : t 0 = ptr k 0) (f3 : t 3 = ptr n1 0) (g2 : H' n1 = some x.cells) (g3 : H' k = some (dk l at')) (b3 : ¬ n1 = k) (hk : k < nx') (h1 : n1 < nx') (h0 : n0 ≤ nx') :
    wpt P (fun j => j = k) n0 (law25_made_t1 tI nx_ rg ke) (MadeP t H' x l k nx') ⟨t, H', nx'⟩ := by
  have c2 : ¬ n1 = nx' := by omega
  have c3 : ¬ k = nx' := by omega
  have c4 : ¬ nx' = k := by omega
  simp [law25_made_t1, f0, f3, g2, b3, c2, c3, c4, -List.reduceReplicate]
  repeat' first
    | refine And.intro ?_ ?_
    | (refine wCall_drawL (hrg 1 8 (by omega) (by omega) (by omega)) (l := l) (at_ := at') hat' hl (by simp [g3, c3]) (.inr rfl) fun p5 at5 n5 hp5 ha5 hn5 => ?_
       obtain ⟨r, rfl, hr0, hr1⟩ := hp5
       have hwr := w64 (x := x.ap + r) (by have := hx.2.2; omega) (by have := hx.2.2; omega)
       simp at hn5
       have d1 : ¬ k = n5 := by omega
       have d2 : ¬ n1 = n5 := by omega
       have e1 : ¬ n5 = k := by omega
       simp [f0, f3, g2, hwr, b3, d1, d2, e1, c2, c3, c4, show n0 ≤ n5 by omega, -List.reduceReplicate])
    | (refine wCall_drawL (hn 9 (by omega) (by omega)) (l := l) (at_ := at5) ha5 hl (by simp [c3, d1, e1]) (.inr rfl) fun p6 at6 n6 hp6 ha6 hn6 => ?_
       obtain ⟨n, rfl, hn0, hn1'⟩ := hp6
       simp at hn6
       have d3 : ¬ k = n6 := by omega
       have d4 : ¬ n1 = n6 := by omega
       have e2 : ¬ n6 = k := by omega
       simp [f0, f3, g2, hwr, b3, itP_v, d1, d2, d3, d4, e1, e2, c2, c3, c4, show n0 ≤ n6 by omega, -List.reduceReplicate])
    | (refine wCall_eq (Q := fun v => v = keepV x (itP (x.ap + r) n)) (hke x (itP (x.ap + r) n) hx.1 (itP_ok _ _ ⟨by have := hx.2.2; omega, by have := hx.2.2; omega⟩) (by have := hx.2.1; omega) _ _) fun v n7 hv hn7 => ?_
       subst hv
       simp at hn7
       have d5 : ¬ k = n7 := by omega
       have d6 : ¬ n1 = n7 := by omega
       have e3 : ¬ n7 = k := by omega
       simp [f0, f3, g2, keepV, d1, d2, d3, d4, d5, d6, e1, e2, e3, c2, c3, c4, show n0 ≤ n7 by omega, show n0 ≤ n6 by omega, show n0 ≤ n5 by omega, -List.reduceReplicate])
    | exact h0
    | exact MadeP.mk (t5 rfl rfl rfl rfl rfl) ⟨_, _, itP_ok (x.ap + r) n ⟨by have := hx.2.2; omega, by have := hx.2.2; omega⟩, rfl, rfl, by omega, by simp [d1, d2, d3, d4, d5, d6, e1, e2, e3, c2, c3, c4]⟩ ⟨at6, ha6, by simp [d1, d2, d3, d4, d5, d6, e1, e2, e3, c2, c3, c4]⟩ (fun j h1 h2 => by simp [h2, show ¬ j = n7 by omega, show ¬ j = n6 by omega, show ¬ j = n5 by omega, show ¬ j = nx' by omega]) (by simp; omega)
theorem made25_w {P : Program} {f tI nx_ rg ke : Nat} (hc : compFn P f = some (40, law25_madeC tI nx_ rg ke, [.cA 2 2])) (hn : NextW P nx_) (hrg : ∀ lo hi : Int, 0 ≤ lo → lo ≤ hi → hi < 4611686018427387904 → Draws P rg [.int .i64 lo, .int .i64 hi] (isI lo hi))
    (hke : KeepOK P ke) : Draws P f [] isMadeR := by
  intro k l at_ ha hl H nx hk
  refine PCalls_of hc (by simp) fun hw => ?_
  have hmx : (maxLen : Int) = 9223372036854775807 := rfl
  have hkn : k < nx := by
    rcases Nat.lt_or_ge k nx with h | h
    · exact h
    · have := hw k h; rw [hk] at this; cases this
  have z1 : ¬ k = nx := by omega
  have z2 : ¬ nx = k := by omega
  simp [law25_madeC]
  refine wCall_drawL (hn 5 (by omega) (by omega)) ha hl (by simp [hk, z1]) (.inr rfl) fun p1 at1 n1 hp1 ha1 hn1 => ?_
  obtain ⟨m, rfl, hm0, hm1⟩ := hp1
  simp at hn1
  have b1 : ¬ nx = n1 := by omega
  have b2 : ¬ k = n1 := by omega
  have b3 : ¬ n1 = k := by omega
  simp [b1, b2, b3, z1, z2, show nx ≤ n1 by omega]
  refine wCall_drawL (hn 5 (by omega) (by omega)) (l := l) (at_ := at1) ha1 hl (by simp [z1, b2]) (.inr rfl) fun p2 at2 n2 hp2 ha2 hn2 => ?_
  obtain ⟨q, rfl, hq0, hq1⟩ := hp2
  simp at hn2
  have join : ∀ (T : Nat → Value) (H1 : Nat → Option (List Value)) (n3 : Nat) (ap : Int) (at3 : Int), T 0 = ptr k 0 → T 2 = ptr nx 0 → T 3 = ptr n1 0 → H1 nx = some [.int .i64 0, lin tI []] → H1 n1 = some (Rcv.mk ap []).cells → 0 ≤ ap → ap ≤ 4096 → H1 k = some (dk l at3) → 0 ≤ at3 → (∀ j, j < nx → j ≠ k → H1 j = H j) → n2 ≤ n3 →
      wpc (PCalls P) P (fun j => j = k) nx (law25_madeC_j2 tI nx_ rg ke) (fin nx [.cA 2 2] (fun p H' _ => isMadeR p ∧ Drew H k l H')) ⟨T, H1, n3⟩ := by
    intro T H1 n3 ap at3 e0 e2 e3 k1 k2 ha0 ha1 k3 hat3 hoth hn3
    simp [law25_madeC_j2, e0]
    refine wCall_drawL (hn 7 (by omega) (by omega)) (l := l) (at_ := at3) hat3 hl (by simp [k3]) (.inr rfl) fun p4 at4 n4 hp4 ha4 hn4 => ?_
    obtain ⟨c, rfl, hc0, hc1⟩ := hp4
    simp at hn4
    simp
    refine wpc_loop _ _ _ _ _ _ (fun s => ∃ (x : Rcv) (at' : Int), 0 ≤ at' ∧ MadeR x ∧ s.t 0 = ptr k 0 ∧ s.t 2 = ptr nx 0 ∧ s.t 3 = ptr n1 0 ∧ (∃ j : Int, s.t 4 = .int .i64 j ∧ j ≤ 10) ∧ s.H nx = some [.int .i64 0, lin tI []] ∧ s.H n1 = some x.cells ∧ s.H k = some (dk l at') ∧ (∀ j, j < nx → j ≠ k → s.H j = H j) ∧ n2 ≤ s.nx)
      (fun s => match s.t 4 with | .int _ i => i.toNat | _ => 0) _ ⟨⟨ap, []⟩, at4, ha4, ⟨nil_ok _ ⟨by omega, by omega⟩, by simp, ha0, ha1⟩, by simp [e0], by simp [e2], by simp [e3], ⟨c, by simp, by omega⟩, by simp [k1, z2], by simp [k2, b3], by simp, fun j h1 h2 => by simp [h2, hoth j h1 h2], by simp; omega⟩ ?_
    rintro ⟨t, H', nx'⟩ ⟨x, at', hat', hx, f0, f2, f3, ⟨j, f4, hj⟩, g1, g2, g3, hoth', hnx'⟩
    simp only at f0 f2 f3 f4 g1 g2 g3 hoth' hnx'
    simp [f4]
    refine wB_of (fun hlt => ?_) (fun hlt => ?_)
    · simp at hlt
      have hw4 := w64 (x := j - 1) (by omega) (by omega)
      have c1 : ¬ nx = nx' := by omega
      have c2 : ¬ n1 = nx' := by omega
      have c3 : ¬ k = nx' := by omega
      simp [law25_madeC_j1]
      refine wpt_mono ?post _ _ rfl (made_t1 (tI := tI) (x := x) (l := l) (n1 := n1) hn hrg hke hx hl hat' f0 f3 g2 g3 b3 (by omega) (by omega) (by omega))
      rintro ⟨t2, H2, n5⟩ ⟨h1, ⟨i, ky, hi, q5, q6, hky, hHy⟩, ⟨at6, ha6, hd6⟩, ho6, hn6⟩
      simp only at h1 q5 q6 hHy hd6 ho6 hn6
      have r0 := (h1 0 (by omega)).trans f0
      have r2 := (h1 2 (by omega)).trans f2
      have r3 := (h1 3 (by omega)).trans f3
      have r4 := (h1 4 (by omega)).trans f4
      simp [q6]
      have o1 := (ho6 nx (by omega) z2).trans g1
      have o2 := (ho6 n1 (by omega) b3).trans g2
      refine wB_of (fun he => ?_) (fun he => ?_)
      · simp at he
        simp [q5, r3, r4, hHy, hw4, Rcv.ag, show nx ≤ ky by omega, show nx ≤ n1 by omega, o2]
        exact kLoop_nrm _ _ _ _ (Sub_refl _ _) ⟨keepR x i, at6, ha6, hx.keep hi he, by simp [r0], by simp [r2], by simp [r3], ⟨j - 1, by simp, by omega⟩, by simp [b1, o1], by simp, by simp [b2, hd6], fun j' h1 h2 => by simp [show ¬ j' = n1 by omega, ho6 j' (by omega) h2, hoth' j' h1 h2], by show n2 ≤ n5; omega⟩ (by simp; omega)
      · simp [r4, hw4]
        exact kLoop_nrm _ _ _ _ (Sub_refl _ _) ⟨x, at6, ha6, hx, by simp [r0], by simp [r2], by simp [r3], ⟨j - 1, by simp, by omega⟩, by simp [b1, o1], by simp [o2], by simp [b2, hd6], fun j' h1 h2 => by simp [ho6 j' (by omega) h2, hoth' j' h1 h2], by show n2 ≤ n5; omega⟩ (by simp; omega)
    · simp [f2, f3, g1, g2, Rcv.ag, show nx ≤ n1 by omega]
      refine wF_dr hw hkn hat' (fun j hj => ?_) ⟨x, rfl, hx⟩
      by_cases hjk : j = k
      · subst hjk; simp [g3, show ¬ j = nx by omega]
      · simp [hjk, hoth' j hj hjk, show ¬ j = nx by omega]
  simp
  refine wB_of (fun hlt => ?_) (fun hlt => ?_)
  · refine wCall_drawL (hn 10 (by omega) (by omega)) (l := l) (at_ := at2) ha2 hl (by simp) (.inr rfl) fun p3 at3 n3 hp3 ha3 hn3 => ?_
    obtain ⟨c, rfl, hc0, hc1⟩ := hp3
    simp at hn3
    have hw4 := w64 (x := 4096 - c) (by omega) (by omega)
    simp [b1, b2, b3, z1, z2, hw4, show nx ≤ n1 by omega]
    refine join _ _ _ (4096 - c) at3 (by simp) (by simp) (by simp) (by simp [b1, b2, b3, z1, z2]) (by simp [b1, b2, b3, z1, z2, Rcv.cells]) (by omega) (by omega) (by simp [b1, b2, b3, z1, z2]) ha3 (fun j h1 h2 => by simp [h2, show ¬ j = nx by omega, show ¬ j = n1 by omega]) (by omega)
  · exact join _ _ _ m at2 (by simp) (by simp) (by simp) (by simp [b1, b2, b3, z1, z2]) (by simp [b1, b2, b3, z1, z2, Rcv.cells]) (by omega) (by omega) (by simp [b1, b2, b3, z1, z2]) ha2 (fun j h1 h2 => by simp [h2, show ¬ j = nx by omega, show ¬ j = n1 by omega]) (by omega)
end Go.PE
namespace Go.PE
open Go
def Kq (l : List Nat) (a b : Nat → Value) : Prop := ∀ j ∈ l, a j = b j
theorem Kq.trans {l l' : List Nat} {a b c : Nat → Value} (h1 : Kq l a b) (h2 : Kq l' b c) (hs : ∀ j ∈ l', j ∈ l) : Kq l' a c := fun j hj => (h1 j (hs j hj)).trans (h2 j hj)
theorem Own.tr {n n' : Nat} {A B C : Nat → Option (List Value)} (h1 : Own n A B) (h2 : Own n' B C) (h : n ≤ n') : Own n A C := fun k hk => (h2 k (by omega)).trans (h1 k hk)
theorem keepR_wf {y : Rcv} {z : Itm} (hy : y.ok) (hz : z.ok) : (keepR y z).wf := by
  unfold keepR
  split
  · intro x hx
    rcases insI_mem hx with rfl | hx
    · exact hz.1
    · exact (hy.2 x hx).1
  · intro x hx; simp at hx
theorem keepR_len (y : Rcv) (z : Itm) : (keepR y z).l.length ≤ y.l.length + 1 := by
  unfold keepR
  split
  · rw [show (Rcv.mk y.ap (insI y.l z)).l = insI y.l z from rfl, insI_len]; omega
  · simp
theorem rdyI_wf {y : Rcv} (hy : y.ok) : (rdyI y).wf := by
  have hz : zItm.wf := by simp [Itm.wf, zItm, inBytes]
  unfold rdyI
  split
  · split
    · exact hz
    · rename_i x l h
      exact (hy.2 x (by rw [h]; simp)).1
  · exact hz
theorem appV_wf {y : Rcv} (hy : y.ok) : (appV y).wf := by
  unfold appV
  split
  · intro x hx
    exact (hy.2 x (List.mem_of_mem_drop hx)).1
  · intro x hx; exact (hy.2 x hx).1
theorem appV_len (y : Rcv) : (appV y).l.length ≤ y.l.length := by
  unfold appV
  split
  · rw [List.length_drop]; omega
  · exact Nat.le_refl _
def slA : List Nat := [5, 11, 12, 51, 52, 53]
def slB : List Nat := [5, 11, 12, 14, 51, 52, 53, 60, 61]
theorem rs_j1 {P : Program} {tI u ke rk sr n0 : Nat} (hke : KeepOK P ke) (hrk : KeepOK P rk) (hsr : SmRcOK P sr) {T : Nat → Value} {H : Nat → Option (List Value)} {nx ky i : Nat} {y : Rcv} {zs : List Itm} {Q : Ex → PS → Prop}
    (hn0 : n0 ≤ nx) (hy : y.ok) (hyl : y.l.length ≤ 1000) (hi : i < zs.length) (hil : zs.length ≤ 10) (hz : ∀ z ∈ zs, z.ok) (e14 : T 14 = ptr ky 0) (hky : H ky = some y.cells) (hkn : ky < nx) (e60 : T 60 = deep (zs.map Itm.v)) (e62 : T 62 = .int .i64 i)
    (hK : ∀ t' H' n', Kq slB t' T → t' 62 = .int .i64 (i + 1 : Nat) → Own nx H H' → nx ≤ n' → Q .nrm ⟨t', H', n'⟩) :
    wpc (PCalls P) P (fun _ => False) n0 (law25_ReceiverStepsC_j1 tI u ke rk sr) Q ⟨T, H, nx⟩ := by
  have hmx : (maxLen : Int) = 9223372036854775807 := rfl
  have he := elem_itm (l := zs) (n := (i : Int)) (by omega) (by simpa using hi)
  simp at he
  have hzi := hz _ (List.getElem_mem hi)
  have hw1 := w64 (x := (i : Int) + 1) (by omega) (by omega)
  generalize zs[i] = z at he hzi
  have c1 : ¬ ky = nx := by omega
  simp [law25_ReceiverStepsC_j1, e14, e60, e62, he, hn0, hky, c1]
  refine wCall_eq (Q := fun v => v = keepV y z) (hke y z hy hzi (by omega) _ _) fun v n1 hv hn1 => ?_
  subst hv
  simp at hn1
  have c2 : ¬ ky = n1 := by omega
  have c3 : ¬ nx = n1 := by omega
  simp [keepV, e14, hn0, hky, c1, c2, c3, show n0 ≤ n1 by omega]
  refine wCall_eq (Q := fun v => v = keepV y z) (hrk y z hy hzi (by omega) _ _) fun v n2 hv hn2 => ?_
  subst hv
  simp at hn2
  have c4 : ¬ ky = n2 := by omega
  have c5 : ¬ nx = n2 := by omega
  have c6 : ¬ n1 = n2 := by omega
  simp [keepV, e14, hn0, hky, c1, c2, c3, c4, c5, c6, Rcv.ag, show n0 ≤ n1 by omega, show n0 ≤ n2 by omega]
  refine wCall_eq (Q := fun v => v = .bool true) (hsr (keepR y z) (keepR_wf hy hzi) (by have := keepR_len y z; omega) _ _) fun v n3 hv hn3 => ?_
  subst hv
  simp at hn3
  simp [e62, hw1]
  refine hK _ _ _ ?_ (by simp) (by simp [show nx ≤ n1 by omega, show nx ≤ n2 by omega]) (by omega)
  intro j hj
  simp only [slB, List.mem_cons, List.not_mem_nil, or_false] at hj
  rcases hj with rfl | rfl | rfl | rfl | rfl | rfl | rfl | rfl | rfl <;> rfl
set_option maxHeartbeats 4000000 in
theorem rs_j2 {P : Program} {tI u sr rd rrd si va ro ap rap n0 : Nat} (hsr : SmRcOK P sr) (hrd : ReadyOK P rd) (hrrd : ReadyOK P rrd) (hsi : SmItsOK P si) (hva : RValOK P va) (hro : RValOK P ro) (hap : AppliedOK P ap) (hrap : AppliedOK P rap) {T : Nat → Value} {H : Nat → Option (List Value)} {nx ky : Nat} {y : Rcv} {Q : Ex → PS → Prop}
    (hn0 : n0 ≤ nx) (hy : y.ok) (hyl : y.l.length ≤ 1000) (e14 : T 14 = ptr ky 0) (hky : H ky = some y.cells) (hkn : ky < nx)
    (hK : ∀ t' H' n', Kq slA t' T → Own nx H H' → nx ≤ n' → Q .nrm ⟨t', H', n'⟩) :
    wpc (PCalls P) P (fun _ => False) n0 (law25_ReceiverStepsC_j2 tI u sr rd rrd si va ro ap rap) Q ⟨T, H, nx⟩ := by
  have hmx : (maxLen : Int) = 9223372036854775807 := rfl
  have c1 : ¬ ky = nx := by omega
  simp [law25_ReceiverStepsC_j2, e14, hky, Rcv.ag]
  refine wCall_eq (Q := fun v => v = rdyV y) (hrd y hy (by omega) _ _) fun v n1 hv hn1 => ?_
  subst hv
  simp at hn1
  have c2 : ¬ ky = n1 := by omega
  simp [rdyV, e14, hky, c2, show n0 ≤ n1 by omega]
  refine wCall_eq (Q := fun v => v = rdyV y) (hrrd y hy (by omega) _ _) fun v n2 hv hn2 => ?_
  subst hv
  simp at hn2
  have c3 : ¬ ky = n2 := by omega
  have c4 : ¬ n1 = n2 := by omega
  simp [rdyV, e14, hky, c2, c3, c4, Rcv.ag, Itm.ag, show n0 ≤ n1 by omega, show n0 ≤ n2 by omega]
  repeat' first
    | refine And.intro ?_ ?_
    | (refine wCall_eq (Q := fun v => v = .bool true) (hsi [rdyI y] (by simp; exact rdyI_wf hy) (by simp) _ _) fun v n' hv hn' => ?_
       subst hv; simp at hn'; simp [e14, hky, c2, c3, c4, Rcv.ag, Itm.ag])
    | (refine wCall_eq (Q := fun v => v = .bool y.val) (hva y (by omega) _ _) fun v n' hv hn' => ?_
       subst hv; simp at hn'; simp [e14, hky, c2, c3, c4, Rcv.ag, Itm.ag])
    | (refine wCall_eq (Q := fun v => v = .bool y.val) (hro y (by omega) _ _) fun v n' hv hn' => ?_
       subst hv; simp at hn'; simp [e14, hky, c2, c3, c4, Rcv.ag, Itm.ag])
    | (refine wCall_eq (Q := fun v => v = (appV y).v) (hap y hy (by omega) _ _) fun v n' hv hn' => ?_
       subst hv; simp at hn'; simp [e14, hky, c2, c3, c4, Rcv.ag, Itm.ag])
    | (refine wCall_eq (Q := fun v => v = (appV y).v) (hrap y hy (by omega) _ _) fun v n' hv hn' => ?_
       subst hv; simp at hn'; simp [e14, hky, c2, c3, c4, Rcv.ag, Itm.ag])
    | (refine wCall_eq (Q := fun v => v = .bool true) (hsr (appV y) (appV_wf hy) (by have := appV_len y; omega) _ _) fun v n' hv hn' => ?_
       subst hv; simp at hn'; simp [e14, hky, c2, c3, c4, Rcv.ag, Itm.ag])
  all_goals
    refine hK _ _ _ (fun j hj => ?_) (by simp [show nx ≤ n1 by omega, show nx ≤ n2 by omega]) (by omega)
    simp only [slA, List.mem_cons, List.not_mem_nil, or_false] at hj
    rcases hj with rfl | rfl | rfl | rfl | rfl | rfl <;> rfl
@[simp] theorem zItR_take (t : Nat) : (zItR t).take 68 = zItR t := List.take_of_length_le (by simp)
theorem elem_rcv {l : List Rcv} {n : Int} (h0 : 0 ≤ n) (hn : n.toNat < l.length) : elemAt (l.map Rcv.v) n 2 = some (dptr 0 l[n.toNat].cells) := elemAt_map h0 hn rfl (by simp)
section
variable {P : Program} {tI u ke rk sr rd rrd si va ro ap rap n0 : Nat} (hke : KeepOK P ke) (hrk : KeepOK P rk) (hsr : SmRcOK P sr) (hrd : ReadyOK P rd) (hrrd : ReadyOK P rrd) (hsi : SmItsOK P si) (hva : RValOK P va) (hro : RValOK P ro) (hap : AppliedOK P ap) (hrap : AppliedOK P rap)
include hke hrk hsr hrd hrrd hsi hva hro hap hrap
theorem rs_j3 {T : Nat → Value} {H : Nat → Option (List Value)} {nx k1 k2 k3 i : Nat} {ys : List Rcv} {z1 z2 z3 : Itm} {Q : Ex → PS → Prop}
    (hn0 : n0 ≤ nx) (hy : ∀ y ∈ ys, y.ok ∧ y.l.length ≤ 1000) (hi : i < ys.length) (hil : ys.length ≤ 10) (hz1 : z1.ok) (hz2 : z2.ok) (hz3 : z3.ok) (e5 : T 5 = ptr k1 0) (e11 : T 11 = ptr k2 0) (e12 : T 12 = ptr k3 0) (h1 : H k1 = some z1.cells) (h2 : H k2 = some z2.cells) (h3 : H k3 = some z3.cells)
    (n1 : k1 < nx) (n2 : k2 < nx) (n3 : k3 < nx) (e51 : T 51 = deep (ys.map Rcv.v)) (e53 : T 53 = .int .i64 i)
    (hK : ∀ t' H' n', Kq [5, 11, 12, 51, 52] t' T → t' 53 = .int .i64 (i + 1 : Nat) → Own nx H H' → nx ≤ n' → Q .nrm ⟨t', H', n'⟩) :
    wpc (PCalls P) P (fun _ => False) n0 (law25_ReceiverStepsC_j3 tI u ke rk sr rd rrd si va ro ap rap) Q ⟨T, H, nx⟩ := by
  have hmx : (maxLen : Int) = 9223372036854775807 := rfl
  have he := elem_rcv (l := ys) (n := (i : Int)) (by omega) (by simpa using hi)
  simp at he
  obtain ⟨hyk, hyl⟩ := hy _ (List.getElem_mem hi)
  have hw1 := w64 (x := (i : Int) + 1) (by omega) (by omega)
  generalize ys[i] = y at he hyk hyl
  have c1 : ¬ k1 = nx := by omega
  have c2 : ¬ k2 = nx := by omega
  have c3 : ¬ k3 = nx := by omega
  simp [law25_ReceiverStepsC_j3, e5, e11, e12, e51, e53, he, h1, h2, h3, c1, c2, c3, hn0, Itm.ag]
  refine wpc_loop _ _ _ _ _ _ (fun s => ∃ q : Nat, q ≤ 3 ∧ Kq [5, 11, 12, 51, 52, 53] s.t T ∧ s.t 14 = ptr nx 0 ∧ s.t 60 = deep ([z1, z2, z3].map Itm.v) ∧ s.t 61 = .int .i64 3 ∧ s.t 62 = .int .i64 q ∧ Own nx H s.H ∧ s.H nx = some y.cells ∧ nx + 1 ≤ s.nx)
    (fun s => match s.t 62 with | .int _ q => (3 - q).toNat | _ => 0) _ ⟨0, by omega, ?_, by simp, by simp, by simp, by simp, by simp, by simp, by simp⟩ ?_
  · intro j hj
    simp only [List.mem_cons, List.not_mem_nil, or_false] at hj
    rcases hj with rfl | rfl | rfl | rfl | rfl | rfl <;> rfl
  rintro ⟨t, H', nx'⟩ ⟨q, hq, hkp, f14, f60, f61, f62, hown, hHn, hnx⟩
  simp only at hkp f14 f60 f61 f62 hown hHn hnx
  simp [f61, f62]
  by_cases hlt : q < 3
  · simp [show (q : Int) < 3 by omega]
    refine rs_j1 (y := y) (zs := [z1, z2, z3]) (i := q) hke hrk hsr (by omega) hyk hyl (by simpa using hlt) (by simp) (by simp; exact ⟨hz1, hz2, hz3⟩) (by simp [f14]) hHn (by omega) (by simp [f60]) (by simp [f62]) fun t' H2 n' hk h62 hown2 hn' => ?_
    refine kLoop_nrm _ _ _ _ (Sub_refl _ _) ⟨q + 1, by omega, ?_, ?_, ?_, ?_, by simp [h62], hown.tr hown2 (by omega), by simp [hown2 nx (by omega), hHn], by show nx + 1 ≤ n'; omega⟩ (by simp [h62]; omega)
    · refine (hk.trans (l' := [5, 11, 12, 51, 52, 53]) (c := T) (fun j hj => ?_) (by simp [slB]))
      rw [← hkp j hj]
      refine upd_ne _ _ ?_
      intro e; subst e; simp at hj
    · exact (hk 14 (by simp [slB])).trans (by simp [f14])
    · exact (hk 60 (by simp [slB])).trans (by simp [f60])
    · exact (hk 61 (by simp [slB])).trans (by simp [f61])
  · simp [show ¬ (q : Int) < 3 by omega]
    refine rs_j2 (y := y) (ky := nx) hsr hrd hrrd hsi hva hro hap hrap (by omega) hyk hyl (by simp [f14]) hHn (by omega) fun t' H2 n' hk hown2 hn' => ?_
    have hk' : Kq [5, 11, 12, 51, 52, 53] t' T := hk.trans (l' := [5, 11, 12, 51, 52, 53]) (c := T) (fun j hj => by
      rw [← hkp j hj]
      refine upd_ne _ _ ?_
      intro e; subst e; simp at hj) (by simp [slA])
    have h53 : t' 53 = .int .i64 i := (hk' 53 (by simp)).trans e53
    simp [h53, hw1]
    refine hK _ _ _ (fun j hj => ?_) (by simp) (hown.tr hown2 (by omega)) (by omega)
    rw [← hk' j (by simp at hj ⊢; omega)]
    simp only [List.mem_cons, List.not_mem_nil, or_false] at hj
    rcases hj with rfl | rfl | rfl | rfl | rfl <;> rfl
theorem rs_j4 {T : Nat → Value} {H : Nat → Option (List Value)} {nx k1 k2 k3 : Nat} {ys : List Rcv} {z1 z2 z3 : Itm} {Q : Ex → PS → Prop}
    (hn0 : n0 ≤ nx) (hy : ∀ y ∈ ys, y.ok ∧ y.l.length ≤ 1000) (hil : ys.length ≤ 10) (hz1 : z1.ok) (hz2 : z2.ok) (hz3 : z3.ok) (e5 : T 5 = ptr k1 0) (e11 : T 11 = ptr k2 0) (e12 : T 12 = ptr k3 0) (h1 : H k1 = some z1.cells) (h2 : H k2 = some z2.cells) (h3 : H k3 = some z3.cells)
    (n1 : k1 < nx) (n2 : k2 < nx) (n3 : k3 < nx) (e51 : T 51 = deep (ys.map Rcv.v)) (e52 : T 52 = .int .i64 ys.length) (e53 : T 53 = .int .i64 0)
    (hK : ∀ t' H' n', Own nx H H' → nx ≤ n' → Q .nrm ⟨t', H', n'⟩) :
    wpc (PCalls P) P (fun _ => False) n0 (law25_ReceiverStepsC_j4 tI u ke rk sr rd rrd si va ro ap rap) Q ⟨T, H, nx⟩ := by
  simp [law25_ReceiverStepsC_j4]
  refine wpc_loop _ _ _ _ _ _ (fun s => ∃ q : Nat, q ≤ ys.length ∧ Kq [5, 11, 12, 51, 52] s.t T ∧ s.t 53 = .int .i64 q ∧ Own nx H s.H ∧ nx ≤ s.nx)
    (fun s => match s.t 53 with | .int _ q => (ys.length - q).toNat | _ => 0) _ ⟨0, by omega, fun j _ => rfl, by simp [e53], by simp, by simp⟩ ?_
  rintro ⟨t, H', nx'⟩ ⟨q, hq, hkp, f53, hown, hnx⟩
  simp only at hkp f53 hown hnx
  have f52 := (hkp 52 (by simp)).trans e52
  simp [f52, f53]
  by_cases hlt : q < ys.length
  · simp [hlt]
    have g : ∀ {j : Nat} {v : Value}, j ∈ [5, 11, 12, 51, 52] → T j = v → upd t 54 (.bool true) j = v := fun {j v} hj hv => by
      rw [← hv, ← hkp j hj]
      refine upd_ne _ _ ?_
      intro e; subst e; simp at hj
    refine rs_j3 hke hrk hsr hrd hrrd hsi hva hro hap hrap (ys := ys) (i := q) (by omega) hy hlt hil hz1 hz2 hz3 (g (by simp) e5) (g (by simp) e11) (g (by simp) e12) (by rw [hown k1 n1]; exact h1) (by rw [hown k2 n2]; exact h2) (by rw [hown k3 n3]; exact h3) (by omega) (by omega) (by omega) (g (by simp) e51) (by simp [f53]) fun t' H2 n' hk h53 hown2 hn' => ?_
    refine kLoop_nrm _ _ _ _ (Sub_refl _ _) ⟨q + 1, by omega, hk.trans (l' := [5, 11, 12, 51, 52]) (c := T) (fun j hj => g hj rfl) (by simp), by simp [h53], hown.tr hown2 (by omega), by show nx ≤ n'; omega⟩ (by simp [h53]; omega)
  · simp [hlt]
    exact hK _ _ _ hown hnx
end
end Go.PE
namespace Go.PE
open Go
theorem Itm.set0 (x : Itm) (p : Int) : x.cells.set 0 (.int .i64 p) = { x with place := p : Itm }.cells := rfl
theorem Itm.ok_place {x : Itm} (h : x.ok) {p : Int} (hp : inI64 p) : { x with place := p : Itm }.ok := ⟨h.1, hp, h.2.2⟩
theorem wrap_rng (n : Int) : inI64 (IntKind.i64.wrap n) := by unfold inI64; rw [IntKind.wrap_i64]; omega
theorem Itm.tl (x : Itm) (p : Int) : (.int .i64 p :: x.cells.tail : List Value) = { x with place := p : Itm }.cells := rfl
section
variable {P : Program} {aw tI u nx_ tR ke rk sr rd rrd si va ro ap_ rap n0 : Nat} (haw : Aw25OK P aw) (hn : NextW P nx_) (hke : KeepOK P ke) (hrk : KeepOK P rk) (hsr : SmRcOK P sr) (hrd : ReadyOK P rd) (hrrd : ReadyOK P rrd) (hsi : SmItsOK P si) (hva : RValOK P va) (hro : RValOK P ro) (hap : AppliedOK P ap_) (hrap : AppliedOK P rap)
include haw hn hke hrk hsr hrd hrrd hsi hva hro hap hrap
set_option maxHeartbeats 4000000 in
theorem rs_j5 {T : Nat → Value} {H : Nat → Option (List Value)} {nx kr ki kd kx kn : Nat} {raw x : Rcv} {i nr : Itm} {l : List Int} {at_ place : Int} {Q : Ex → PS → Prop}
    (hn0 : n0 ≤ nx) (hraw : raw.ok) (hrl : raw.l.length ≤ 1000) (hx : MadeR x) (hi : i.ok) (hnr : nr.ok) (hpl : inI64 place) (hl : l.length ≤ maxLen) (ha : 0 ≤ at_)
    (e3 : T 3 = .int .i64 place) (e4 : T 4 = ptr kr 0) (e5 : T 5 = ptr ki 0) (e9 : T 9 = ptr kd 0) (e10 : T 10 = ptr kx 0) (e11 : T 11 = ptr kn 0) (hr : H kr = some raw.cells) (h5 : H ki = some i.cells) (h9 : H kd = some (dk l at_)) (h10 : H kx = some x.cells) (h11 : H kn = some nr.cells)
    (m1 : n0 ≤ kd) (lr : kr < nx) (li : ki < nx) (ld : kd < nx) (lx : kx < nx) (ln : kn < nx) (d1 : ¬ kr = kd) (d2 : ¬ ki = kd) (d3 : ¬ kx = kd) (d4 : ¬ kn = kd)
    (hK : ∀ t' H' n', t' 8 = .bool true → nx ≤ n' → Q .rt ⟨t', H', n'⟩) :
    wpc (PCalls P) P (fun _ => False) n0 (law25_ReceiverStepsC_j5 aw tI u nx_ tR ke rk sr rd rrd si va ro ap_ rap) Q ⟨T, H, nx⟩ := by
  have hmx : (maxLen : Int) = 9223372036854775807 := rfl
  have c1 : ¬ kr = nx := by omega
  have c2 : ¬ ki = nx := by omega
  have c3 : ¬ kd = nx := by omega
  have c4 : ¬ kx = nx := by omega
  have c5 : ¬ kn = nx := by omega
  have c6 : ¬ nx = kd := by omega
  have fin : ∀ (t : Nat → Value) (H' : Nat → Option (List Value)) (n' : Nat) (ap : Int), inI64 ap → t 5 = ptr ki 0 → t 11 = ptr kn 0 → t 12 = ptr nx 0 → H' ki = some i.cells → H' kn = some nr.cells → H' nx = some { i with place := place : Itm }.cells → nx + 1 ≤ n' → t 51 = deep [x.v, raw.v, (Rcv.mk ap x.l).v] → t 52 = .int .i64 3 → t 53 = .int .i64 0 →
      wpc (PCalls P) P (fun _ => False) n0 (law25_ReceiverStepsC_j4 tI u ke rk sr rd rrd si va ro ap_ rap) (kSeq (PCalls P) P (fun _ => False) n0 ((PC.reg [(some 125, none, PI.call aw []), (some 8, none, PI.mv (Operand.tmp 125))]).seq PC.ret) Q) ⟨t, H', n'⟩ := by
    intro t H' n' ap h0 f5 f11 f12 g1 g2 g3 hn' f51 f52 f53
    refine rs_j4 hke hrk hsr hrd hrrd hsi hva hro hap hrap (ys := [x, raw, ⟨ap, x.l⟩]) (z1 := i) (z2 := nr) (z3 := { i with place := place : Itm }) (by omega) ?_ (by simp) hi hnr (Itm.ok_place hi hpl) f5 f11 f12 g1 g2 g3 (by omega) (by omega) (by omega) (by simp [f51]) (by simp [f52]) f53 fun t2 H2 n2 hown hn2 => ?_
    · intro y hy
      simp at hy
      have := hx.2.1
      rcases hy with rfl | rfl | rfl
      · exact ⟨hx.1, by omega⟩
      · exact ⟨hraw, hrl⟩
      · exact ⟨⟨h0, hx.1.2⟩, by show x.l.length ≤ 1000; omega⟩
    · simp
      refine wCall_eq (Q := fun v => v = .bool true) (haw _ _) fun v n3 hv hn3 => ?_
      subst hv
      simp at hn3
      simp
      exact hK _ _ _ (by simp) (by omega)
  simp [law25_ReceiverStepsC_j5, e3, e4, e5, e9, e10, e11, h5, hn0, c1, c2, c3, c4, c5, c6, hr, h10, h11, Itm.tl, Rcv.ag, Itm.ag, -List.reduceReplicate]
  repeat' first
    | refine And.intro ?_ ?_
    | (refine wCall_drawL (hn 3 (by omega) (by omega)) (l := l) (at_ := at_) ha hl (by simp [h9, c3]) (.inl (by omega)) fun p1 at1 n1 hp1 ha1 hn1 => ?_
       obtain ⟨ap, rfl, hp0, hp1⟩ := hp1
       simp at hn1
       simp [e3, e4, e5, e9, e10, e11, h5, hn0, c1, c2, c3, c4, c5, c6, d1, d2, d3, d4, hr, h10, h11, Rcv.ag, Itm.ag])
    | exact fin _ _ _ ap ⟨by omega, by omega⟩ (by simp [e5]) (by simp [e11]) (by simp) (by simp [h5, c2, d2]) (by simp [h11, c5, d4]) (by simp [c6]) (by omega) rfl rfl rfl
theorem rsteps_ok {f fw ne md : Nat} (hc : compFn P f = some (126, law25_ReceiverStepsC fw aw ne md tI u nx_ tR ke rk sr rd rrd si va ro ap_ rap, [.t 8])) (hfw : FewROK P fw) (hne : NewOK P ne) (hmd : Draws P md [] isMadeR)
    (raw : Rcv) (i : Itm) (l : List Int) (place : Int) (hraw : raw.ok) (hi : i.ok) (hpl : inI64 place) (hl : l.length ≤ maxLen) (hrl : raw.l.length ≤ maxLen) (H : Nat → Option (List Value)) (nx : Nat) :
    PCalls P f [raw.v, i.v, deep (l.map (.int .i64)), .int .i64 place] H nx (fun _ => False) (fun r H' _ => r = .bool true) := by
  refine PCalls_of hc (by simp) fun hw => ?_
  have hmx : (maxLen : Int) = 9223372036854775807 := rfl
  have c1 : ¬ nx = nx + 1 := by omega
  simp [law25_ReceiverStepsC, c1, Rcv.ag]
  refine wCall_eq (Q := fun v => v = .bool (decide (raw.l.length ≤ 40))) (hfw raw _ _) fun v n1 hv hn1 => ?_
  subst hv
  simp at hn1
  by_cases h1 : raw.l.length ≤ 40
  case neg =>
    simp [h1]
    refine wCall_eq (Q := fun r => r = .bool true) (haw _ _) fun r n5 hr hn5 => ?_
    subst hr
    simp
    exact wF_of rfl
  have c2 : ¬ nx = n1 := by omega
  have c3 : ¬ nx + 1 = n1 := by omega
  have c4 : ¬ n1 = nx := by omega
  have c5 : ¬ n1 = nx + 1 := by omega
  simp [h1, law25_ReceiverStepsC_j6]
  refine wCall_le (hne l _ _) fun r H1 n2 hR hn2 hown => ?_
  obtain ⟨rfl, rfl, rfl⟩ := hR
  simp [c1, c2, c3, c4, c5]
  refine wCall_drawL hmd (l := l) (at_ := 0) (by omega) hl (by simp) (.inl (by omega)) fun v2 at1 n3 hv ha1 hn3 => ?_
  obtain ⟨x, rfl, hx⟩ := hv
  simp at hn3
  have b1 : ¬ nx = n3 := by omega
  have b2 : ¬ nx + 1 = n3 := by omega
  have b3 : ¬ n1 = n3 := by omega
  have b4 : ¬ n3 = n1 := by omega
  have b5 : ¬ nx = n3 + 1 := by omega
  have b6 : ¬ nx + 1 = n3 + 1 := by omega
  have b7 : ¬ n1 = n3 + 1 := by omega
  have b8 : ¬ n3 + 1 = n1 := by omega
  have b9 : ¬ n3 = n3 + 1 := by omega
  simp [c1, c2, c3, c4, c5, b1, b2, b3, b4, b5, b6, b7, b8, b9, show nx ≤ n3 by omega, show nx ≤ n3 + 1 by omega, -List.reduceReplicate]
  repeat' first
    | refine And.intro ?_ ?_
    | (refine wCall_drawL (hn 12 (by omega) (by omega)) (l := l) (at_ := at1) ha1 hl (by simp [c1, c2, c3, c4, c5, b1, b2, b3, b4, b5, b6, b7, b8, b9]) (.inl (by omega)) fun v4 at2 n4 hv ha2 hn4 => ?_
       obtain ⟨p, rfl, hp0, hp1⟩ := hv
       simp at hn4
       simp [c1, c2, c3, c4, c5, b1, b2, b3, b4, b5, b6, b7, b8, b9, show nx ≤ n3 by omega, show nx ≤ n3 + 1 by omega, Itm.tl, -List.reduceReplicate]
       exact rs_j5 haw hn hke hrk hsr hrd hrrd hsi hva hro hap hrap (kr := nx) (ki := nx + 1) (kd := n1) (kx := n3) (kn := n3 + 1) (raw := raw) (x := x) (i := i) (nr := { i with place := IntKind.i64.wrap (IntKind.i64.wrap (x.ap + p) - 1) : Itm }) (l := l) (at_ := at2) (place := place) (by omega) hraw (by omega) hx hi (Itm.ok_place hi (wrap_rng _)) hpl hl ha2
         rfl rfl rfl rfl rfl rfl (by simp [c1, c2, c3, c4, c5, b1, b2, b3, b4, b5, b6, b7, b8, b9]) (by simp [c1, c2, c3, c4, c5, b1, b2, b3, b4, b5, b6, b7, b8, b9]) (by simp [c1, c2, c3, c4, c5, b1, b2, b3, b4, b5, b6, b7, b8, b9]) (by simp [c1, c2, c3, c4, c5, b1, b2, b3, b4, b5, b6, b7, b8, b9]) (by simp [c1, c2, c3, c4, c5, b1, b2, b3, b4, b5, b6, b7, b8, b9])
         (by omega) (by omega) (by omega) (by omega) (by omega) (by omega) c2 c3 b4 b8 fun t' H' n' h8 hn' => (by simp [h8]; exact wF_of rfl))
end
end Go.PE
namespace Go.PE
open Go
theorem asc_len : ∀ {l : List Itm} {ap b : Int}, asc ap b l = true → b ≤ ap + 8 → b + l.length ≤ ap + 8
  | [], ap, b, _, hb => by simpa using hb
  | x :: r, ap, b, h, hb => by
    unfold asc at h
    simp only [Bool.and_eq_true, decide_eq_true_eq] at h
    have := asc_len h.2 h.1.2
    simp only [List.length_cons]
    omega
theorem insI_cons (a x : Itm) (r : List Itm) : insI (a :: r) x = if a.place < x.place then a :: insI r x else x :: a :: r := by
  unfold insI
  by_cases h : a.place < x.place <;> simp [h]
theorem asc_ins : ∀ {l : List Itm} {x : Itm} {ap b : Int}, asc ap b l = true → b < x.place → x.place ≤ ap + 8 → hasP l x.place = false → asc ap b (insI l x) = true
  | [], x, ap, b, _, h1, h2, _ => by simp [insI, asc, h1, h2]
  | a :: r, x, ap, b, h, h1, h2, h3 => by
    rw [insI_cons]
    unfold asc at h
    simp only [Bool.and_eq_true, decide_eq_true_eq] at h
    have h4 : a.place ≠ x.place ∧ hasP r x.place = false := by
      unfold hasP at h3
      simp only [List.any_cons, Bool.or_eq_false_iff, beq_eq_false_iff_ne] at h3
      exact ⟨h3.1, h3.2⟩
    split
    · rename_i hlt
      simp [asc, h.1.1, h.1.2, asc_ins h.2 hlt h2 h4.2]
    · simp [asc, h1, h2, show x.place < a.place by omega, h.1.2, h.2]
theorem asc_up : ∀ {l : List Itm} {ap b : Int}, asc ap b l = true → asc (ap + 1) b l = true
  | [], _, _, _ => rfl
  | x :: r, ap, b, h => by
    unfold asc at h ⊢
    simp only [Bool.and_eq_true, decide_eq_true_eq] at h ⊢
    exact ⟨⟨h.1.1, by omega⟩, asc_up h.2⟩
/-- what is kept: items of the first places, in order -/
structure GoodX (L : Int) (x : Rcv) : Prop where
  v : x.val = true
  a : x.ap ≤ L
  i : ∀ y ∈ x.l, y.place ≤ L ∧ y = itP y.place (7 * y.place)
theorem GoodX.asc {L : Int} {x : Rcv} (h : GoodX L x) : 0 ≤ x.ap ∧ x.ap ≤ 4096 ∧ x.l.length ≤ 8 ∧ PE.asc x.ap x.ap x.l = true := by
  have := h.v
  simp only [Rcv.val, Bool.and_eq_true, decide_eq_true_eq] at this
  exact ⟨this.1.1.1, this.1.1.2, this.1.2, this.2⟩
theorem GoodX.ok {L : Int} {x : Rcv} (h : GoodX L x) (hL : L ≤ 20) : x.ok := by
  obtain ⟨h1, h2, h3, h4⟩ := h.asc
  refine ⟨⟨by omega, by omega⟩, fun y hy => ?_⟩
  have h5 := (asc_lt h4).1 y hy
  have h6 := h.i y hy
  rw [h6.2]
  exact itP_ok _ _ ⟨by omega, by omega⟩
theorem goodX_0 {L : Int} (hL : 0 ≤ L) : GoodX L ⟨0, []⟩ := ⟨by decide, hL, by simp⟩
theorem hasP_ins {l : List Itm} {x : Itm} {p : Int} : hasP (insI l x) p = (hasP l p || (x.place == p)) := by
  induction l with
  | nil => simp [insI, hasP]
  | cons a r ih =>
    rw [insI_cons]
    split
    · unfold hasP at ih ⊢
      simp only [List.any_cons, ih, Bool.or_assoc]
    · unfold hasP
      simp only [List.any_cons]
      cases (x.place == p) <;> simp
/-- one step of keeping -/
theorem GoodX.keep {L p : Int} {x : Rcv} (h : GoodX L x) (hL : L ≤ 20) (h1 : 1 ≤ p) (h2 : p ≤ L) :
    (keepE x (itP p (7 * p)) = 0 ∧ GoodX L (keepR x (itP p (7 * p))) ∧ (keepR x (itP p (7 * p))).ap = x.ap ∧ (∀ q, hasP (keepR x (itP p (7 * p))).l q = (hasP x.l q || (p == q)))) ∨
    (keepE x (itP p (7 * p)) = 10 ∧ (p ≤ x.ap ∨ hasP x.l p = true)) ∨ (keepE x (itP p (7 * p)) = 11 ∧ x.ap + 8 < p) := by
  obtain ⟨g1, g2, g3, g4⟩ := h.asc
  have hv := h.v
  by_cases h3 : p ≤ x.ap ∨ hasP x.l p = true
  · right; left
    exact ⟨by simp [keepE, hv, itP, h3], h3⟩
  by_cases h4 : x.ap + 8 < p
  · right; right
    exact ⟨by simp [keepE, hv, itP, h3, h4], h4⟩
  have h5 : keepE x (itP p (7 * p)) = 0 := by simp [keepE, hv, itP, h3, h4, show ¬ 4096 < p by omega]
  have h6 : x.ap < p := by
    apply Classical.byContradiction
    intro hn
    exact h3 (.inl (by omega))
  have h7 : hasP x.l p = false := by
    cases hh : hasP x.l p with
    | false => rfl
    | true => exact absurd (.inr hh) h3
  have h8 := asc_ins (x := itP p (7 * p)) g4 h6 (by show p ≤ _; omega) h7
  have h9 := asc_len h8 (by omega)
  left
  refine ⟨h5, ?_, by simp [keepR, h5], fun q => by simp only [keepR, h5, if_pos]; exact hasP_ins⟩
  simp only [keepR, h5, if_pos]
  refine ⟨?_, h.a, fun y hy => ?_⟩
  · simp only [Rcv.val, Bool.and_eq_true, decide_eq_true_eq]
    exact ⟨⟨⟨g1, g2⟩, by omega⟩, h8⟩
  · rcases insI_mem hy with rfl | hy
    · exact ⟨h2, rfl⟩
    · exact h.i y hy
/-- one step of applying -/
theorem GoodX.app {L : Int} {x : Rcv} (h : GoodX L x) (hL : L ≤ 20) (hr : rdyB x = true) :
    rdyI x = itP (x.ap + 1) (7 * (x.ap + 1)) ∧ x.ap + 1 ≤ L ∧ GoodX L (appV x) ∧ (appV x).ap = x.ap + 1 ∧ (appV x).l.length + 1 = x.l.length ∧ ∀ q, (q ≤ x.ap ∨ hasP x.l q = true) → (q ≤ (appV x).ap ∨ hasP (appV x).l q = true) := by
  obtain ⟨g1, g2, g3, g4⟩ := h.asc
  have hi := h.i
  have ha : appV x = ⟨x.ap + 1, x.l.drop 1⟩ := by simp [appV, hr]
  rw [ha]
  obtain ⟨ap, l⟩ := x
  cases l with
  | nil => simp [rdyB] at hr
  | cons y r =>
    have hp : y.place = ap + 1 := by simpa [rdyB, h.v] using hr
    obtain ⟨h1, h2⟩ := hi y (by simp)
    simp only at g1 g2 g3 g4
    unfold PE.asc at g4
    simp only [Bool.and_eq_true, decide_eq_true_eq] at g4
    rw [hp] at h1 h2 g4
    have hri : rdyI ⟨ap, y :: r⟩ = y := by unfold rdyI; rw [if_pos hr]
    rw [hri]
    refine ⟨h2, h1, ⟨?_, h1, fun z hz => hi z (by simp at hz ⊢; exact .inr hz)⟩, rfl, by simp, fun q hq => ?_⟩
    · simp only [Rcv.val, Bool.and_eq_true, decide_eq_true_eq]
      exact ⟨⟨⟨by omega, by omega⟩, by simp at g3 ⊢; omega⟩, asc_up g4.2⟩
    · rcases hq with hq | hq
      · exact .inl (by simp only at hq ⊢; omega)
      · unfold hasP at hq ⊢
        simp only [List.any_cons, Bool.or_eq_true, beq_iff_eq] at hq
        rcases hq with hq | hq
        · exact .inl (by simp only; omega)
        · exact .inr (by simpa using hq)
/-- where nothing is ready, the next place is not kept -/
theorem GoodX.drained {L p : Int} {x : Rcv} (h : GoodX L x) (hr : rdyB x = false) (hp : p ≤ x.ap + 1) (hq : p ≤ x.ap ∨ hasP x.l p = true) : p ≤ x.ap := by
  obtain ⟨g1, g2, g3, g4⟩ := h.asc
  rcases hq with hq | hq
  · exact hq
  unfold hasP at hq
  rw [List.any_eq_true] at hq
  obtain ⟨y, hy, he⟩ := hq
  have he : y.place = p := by simpa using he
  have hv := h.v
  obtain ⟨ap, l⟩ := x
  cases l with
  | nil => simp at hy
  | cons a r =>
    simp only at g4 hy hp ⊢
    have ha : a.place ≠ ap + 1 := by
      intro e
      simp [rdyB, hv, e] at hr
    unfold PE.asc at g4
    simp only [Bool.and_eq_true, decide_eq_true_eq] at g4
    rcases List.mem_cons.1 hy with rfl | hy
    · omega
    · have := (asc_lt g4.2).1 y hy
      omega
end Go.PE
namespace Go.PE
open Go
def Kr (l : List Nat) (a b : Nat → Value) : Prop := ∀ j ∈ l, a j = b j
@[simp] theorem itP_place (p n : Int) : (itP p n).place = p := _root_.id rfl
@[simp] theorem itP_num (p n : Int) : (itP p n).num = n := _root_.id rfl
theorem Rcv.ag2 (x : Rcv) : PE.ag [.int .i64 x.ap, deep (x.l.map Itm.v)] = x.v := rfl
/-- the row of a receiver, whose list may be one's own -/
def RowR (x : Rcv) (o : Option (List Value)) : Prop := ∃ c, o = some [.int .i64 x.ap, c] ∧ dg1 c = deep (x.l.map Itm.v)
theorem RowR.of (x : Rcv) : RowR x (some x.cells) := ⟨_, rfl, rfl⟩
/-- the inner loop -/
theorem ro_j3 {P : Program} {u rd ap_ n0 : Nat} (hrd : ReadyOK P rd) (hap : AppliedOK P ap_) {T : Nat → Value} {H : Nat → Option (List Value)} {nx kx : Nat} {L : Int} {x : Rcv} {Q : Ex → PS → Prop}
    (hL : L ≤ 20) (hx : GoodX L x) (m1 : n0 ≤ kx) (m2 : kx < nx) (e5 : T 5 = ptr kx 0) (e6 : T 6 = .int .i64 L) (e7 : T 7 = .int .i64 (x.ap + 1)) (hk : RowR x (H kx))
    (hK : ∀ t' H' n' x', Kr [0, 5, 6, 8] t' T → t' 7 = .int .i64 (x'.ap + 1) → RowR x' (H' kx) → GoodX L x' → rdyB x' = false → x.ap ≤ x'.ap → (∀ q, (q ≤ x.ap ∨ hasP x.l q = true) → (q ≤ x'.ap ∨ hasP x'.l q = true)) → nx ≤ n' → Q .nrm ⟨t', H', n'⟩) :
    wpc (PCalls P) P (fun _ => False) n0 (law25_ReceiverOrderC_j3 rd u ap_) Q ⟨T, H, nx⟩ := by
  have hmx : (maxLen : Int) = 9223372036854775807 := rfl
  simp [law25_ReceiverOrderC_j3]
  refine wpc_loop _ _ _ _ _ _ (fun s => Kr [0, 5, 6, 8] s.t T ∧ ∃ x' : Rcv, s.t 7 = .int .i64 (x'.ap + 1) ∧ RowR x' (s.H kx) ∧ GoodX L x' ∧ x.ap ≤ x'.ap ∧ (∀ q, (q ≤ x.ap ∨ hasP x.l q = true) → (q ≤ x'.ap ∨ hasP x'.l q = true)) ∧ nx ≤ s.nx)
    (fun s => match s.t 7 with | .int _ i => (L + 1 - i).toNat | _ => 0) _ ⟨fun _ _ => rfl, x, e7, hk, hx, Int.le_refl _, fun _ h => h, Nat.le_refl _⟩ ?_
  rintro ⟨t, H', nx'⟩ ⟨hkp, x', f7, hk', hg, hle, hq, hnx⟩
  simp only at hkp f7 hk' hnx
  have f5 := (hkp 5 (by simp)).trans e5
  have f6 := (hkp 6 (by simp)).trans e6
  obtain ⟨g1, g2, g3, g4⟩ := hg.asc
  have gok := hg.ok hL
  have c1 : ¬ kx = nx' := by omega
  obtain ⟨c, hc, hcd⟩ := hk'
  simp [f5, f6, f7, hc, hcd, Rcv.ag2]
  refine wCall_eq (Q := fun v => v = rdyV x') (hrd x' gok (by omega) _ _) fun v n1 hv hn1 => ?_
  subst hv
  simp at hn1
  have c2 : ¬ kx = n1 := by omega
  have c3 : ¬ n1 = kx := by omega
  have c4 : n0 ≤ n1 := by omega
  have kr : ∀ {t' : Nat → Value}, t' 0 = t 0 → t' 5 = t 5 → t' 6 = t 6 → t' 8 = t 8 → Kr [0, 5, 6, 8] t' T := fun h0 h5 h6 h8 j hj => by
    rw [← hkp j hj]
    simp only [List.mem_cons, List.not_mem_nil, or_false] at hj
    rcases hj with rfl | rfl | rfl | rfl <;> assumption
  cases hr : rdyB x' with
  | false =>
    simp [rdyV, hr, c4, -List.reduceReplicate]
    exact hK _ _ _ x' (kr rfl rfl rfl rfl) (by simp [f7]) (by simp [c2]; exact ⟨c, hc, hcd⟩) hg hr hle hq (by omega)
  | true =>
    obtain ⟨a1, a2, a3, a4, a5, a6⟩ := hg.app hL hr
    have hw1 := w64 (x := x'.ap + 1 + 1) (by omega) (by omega)
    have hw2 := w64 (x := x'.ap + 1) (by omega) (by omega)
    have hw3 := w64 (x := 7 * (x'.ap + 1)) (by omega) (by omega)
    simp [rdyV, hr, a1, c4, c2, law25_ReceiverOrderC_j2, law25_ReceiverOrderC_j1, f5, f6, f7, hw3, hc, hcd, Rcv.ag2, show ¬ L < x'.ap + 1 by omega, -List.reduceReplicate]
    refine wCall_eq (Q := fun v => v = (appV x').v) (hap x' gok (by omega) _ _) fun v n2 hv hn2 => ?_
    subst hv
    simp at hn2
    simp [f5, f6, f7, hw1, hw2, hc, c2, c3, m1, a4, -List.reduceReplicate]
    refine kLoop_nrm _ _ _ _ (Sub_refl _ _) ⟨kr rfl rfl rfl rfl, appV x', by simp [a4], by simp; exact RowR.of _, a3, by omega, fun q h => a6 q (hq q h), by simp; omega⟩ (by simp [f7]; omega)
theorem ro_j4 {P : Program} {tI u ke rd ap_ n0 : Nat} (hke : KeepOK P ke) (hrd : ReadyOK P rd) (hap : AppliedOK P ap_) {T : Nat → Value} {H : Nat → Option (List Value)} {nx kx : Nat} {L p : Int} {x : Rcv} {Q : Ex → PS → Prop}
    (hL : L ≤ 20) (hx : GoodX L x) (hp1 : 1 ≤ p) (hp2 : p ≤ L) (m0 : n0 ≤ nx) (m1 : n0 ≤ kx) (m2 : kx < nx) (e5 : T 5 = ptr kx 0) (e6 : T 6 = .int .i64 L) (e7 : T 7 = .int .i64 (x.ap + 1)) (e9 : T 9 = .int .i64 p) (hk : RowR x (H kx))
    (hK : ∀ t' H' n' x', Kr [0, 5, 6, 8] t' T → t' 7 = .int .i64 (x'.ap + 1) → RowR x' (H' kx) → GoodX L x' → x.ap ≤ x'.ap → (p ≤ x.ap + 1 → p ≤ x'.ap) → nx ≤ n' → Q .nrm ⟨t', H', n'⟩) :
    wpc (PCalls P) P (fun _ => False) n0 (law25_ReceiverOrderC_j4 tI ke rd u ap_) Q ⟨T, H, nx⟩ := by
  have hmx : (maxLen : Int) = 9223372036854775807 := rfl
  obtain ⟨g1, g2, g3, g4⟩ := hx.asc
  have gok := hx.ok hL
  have c1 : ¬ kx = nx := by omega
  have hw1 := w64 (x := 7 * p) (by omega) (by omega)
  obtain ⟨c, hc, hcd⟩ := hk
  have hp7 : p * 7 = 7 * p := by omega
  simp [law25_ReceiverOrderC_j4, e5, e6, e7, e9, hc, hcd, Rcv.ag2, hw1, itP_v, hp7, -List.reduceReplicate]
  refine wCall_eq (Q := fun v => v = keepV x (itP p (7 * p))) (hke x (itP p (7 * p)) gok (itP_ok _ _ ⟨by omega, by omega⟩) (by omega) _ _) fun v n1 hv hn1 => ?_
  subst hv
  simp at hn1
  have c2 : ¬ kx = n1 := by omega
  have c3 : ¬ n1 = kx := by omega
  have c4 : n0 ≤ n1 := by omega
  have kr : ∀ {t' t : Nat → Value}, Kr [0, 5, 6, 8] t' t → t 0 = T 0 → t 5 = T 5 → t 6 = T 6 → t 8 = T 8 → Kr [0, 5, 6, 8] t' T := fun h h0 h5 h6 h8 j hj => by
    rw [h j hj]
    simp only [List.mem_cons, List.not_mem_nil, or_false] at hj
    rcases hj with rfl | rfl | rfl | rfl <;> assumption
  rcases hx.keep hL hp1 hp2 with ⟨k1, k2, k3, k4⟩ | ⟨k1, k2⟩ | ⟨k1, k2⟩
  · simp [keepV, k1, e5, e6, e7, c2, c3, c4, m1, hc, Rcv.ag]
    refine ro_j3 (L := L) (x := keepR x (itP p (7 * p))) hrd hap hL k2 m1 (by omega) (by simp [e5]) (by simp [e6]) (by simp [e7, k3]) (by simp; exact RowR.of _) fun t' H' n' x' h1 h2 h3 h4 h5 h6 h7 hn' => ?_
    refine hK _ _ _ x' (kr h1 rfl rfl rfl rfl) h2 h3 h4 (by omega) (fun hp => ?_) (by omega)
    exact h4.drained h5 (by omega) (h7 p (.inr (by rw [k4]; simp)))
  · simp [keepV, k1, e5, e6, e7, c2, c3, c4, m1]
    refine ro_j3 (L := L) (x := x) hrd hap hL hx m1 (by omega) (by simp [e5]) (by simp [e6]) (by simp [e7]) (by simp [c2]; exact ⟨c, hc, hcd⟩) fun t' H' n' x' h1 h2 h3 h4 h5 h6 h7 hn' => ?_
    refine hK _ _ _ x' (kr h1 rfl rfl rfl rfl) h2 h3 h4 (by omega) (fun hp => ?_) (by omega)
    exact h4.drained h5 (by omega) (h7 p k2)
  · simp [keepV, k1, e5, e6, e7, c2, c3, c4, m1]
    refine ro_j3 (L := L) (x := x) hrd hap hL hx m1 (by omega) (by simp [e5]) (by simp [e6]) (by simp [e7]) (by simp [c2]; exact ⟨c, hc, hcd⟩) fun t' H' n' x' h1 h2 h3 h4 h5 h6 h7 hn' => ?_
    exact hK _ _ _ x' (kr h1 rfl rfl rfl rfl) h2 h3 h4 (by omega) (fun hp => by omega) (by omega)
theorem order_ok {P : Program} {f tI u ke rd ap_ aw : Nat} (hc : compFn P f = some (109, law25_ReceiverOrderC tI ke rd u ap_ aw, [.t 4])) (hke : KeepOK P ke) (hrd : ReadyOK P rd) (hap : AppliedOK P ap_) (haw : Aw25OK P aw)
    (ps : List Int) (n : Int) (hps : inBytes ps) (hpl : ps.length ≤ 140737488351232) (hn0 : 0 ≤ n) (hn1 : n ≤ 255) (H : Nat → Option (List Value)) (nx : Nat) :
    PCalls P f [deep (ps.map (.int .u8)), .int .u8 n] H nx (fun _ => False) (fun r H' _ => r = .bool true) := by
  refine PCalls_of hc (by simp) fun hw => ?_
  have hmx : (maxLen : Int) = 9223372036854775807 := rfl
  have hps1 := hps.1
  have ht := Int.tmod_nonneg 20 hn0
  have ht2 := Int.tmod_lt_of_pos n (show (0 : Int) < 20 by omega)
  have hw1 := w64 (x := n) (by omega) (by omega)
  have hw2 := w64 (x := 1 + n.tmod 20) (by omega) (by omega)
  obtain ⟨L, hLd⟩ : ∃ L : Int, L = 1 + n.tmod 20 := ⟨_, rfl⟩
  have hL1 : 1 ≤ L := by omega
  have hL2 : L ≤ 20 := by omega
  simp [law25_ReceiverOrderC, hw1, hw2]
  rw [← hLd]
  refine wpc_loop _ _ _ _ _ _ (fun s => s.t 0 = deep (ps.map (.int .u8)) ∧ s.t 5 = ptr nx 0 ∧ s.t 6 = .int .i64 L ∧ ∃ (i : Nat), (i : Int) ≤ ps.length + L ∧ i ≤ 200 ∧ ∃ (x : Rcv), s.t 7 = .int .i64 (x.ap + 1) ∧ s.t 8 = .int .i64 i ∧ RowR x (s.H nx) ∧ GoodX L x ∧ (i : Int) - ps.length ≤ x.ap ∧ nx + 1 ≤ s.nx)
    (fun s => match s.t 8 with | .int _ i => (200 - i).toNat | _ => 0) _ ⟨by simp, by simp, by simp, 0, by omega, by omega, ⟨0, []⟩, by simp, by simp, ⟨lin tI [], by simp, rfl⟩, goodX_0 (by omega), by simp, by simp⟩ ?_
  rintro ⟨T, H', nx'⟩ ⟨e0, e5, e6, i, hi, hi2, x, e7, e8, hrow, hg, hap', hnx⟩
  simp only at e0 e5 e6 e7 e8 hrow hnx
  have hw3 := w64 (x := (ps.length : Int) + L) (by omega) (by omega)
  simp [e0, e6, e8, hw3]
  have hlx := hg.asc
  by_cases hlt : (i : Int) < ps.length + L ∧ i < 200
  · have hlt' : (i : Int) < 200 := by omega
    have hw4 := w64 (x := (i : Int) - ps.length) (by omega) (by omega)
    have hw5 := w64 (x := (i : Int) - ps.length + 1) (by omega) (by omega)
    have hw6 := w64 (x := (i : Int) + 1) (by omega) (by omega)
    simp [hlt.1, hlt', law25_ReceiverOrderC_j5, e0, e6, e8, hw4, hw5]
    by_cases hil : i < ps.length
    · have hb := hps.2 _ (List.getElem_mem hil)
      have he : elemAt (ps.map (Value.int .u8)) (i : Int) 1 = some (dptr 0 [.int .u8 ps[i]]) := by
        have := elemAt_map (l := ps) (f := Value.int .u8) (n := (i : Int)) (c := [Value.int .u8 ps[i]]) (size := 1) (by omega) (by simpa using hil) rfl rfl
        simpa using this
      generalize ps[i] = b at he hb
      have hw7 := w64 (x := b) (by omega) (by omega)
      have hb1 := Int.tmod_nonneg L hb.1
      have hb2 := Int.tmod_lt_of_pos b (show 0 < L by omega)
      have hw8 := w64 (x := 1 + b.tmod L) (by omega) (by omega)
      simp [hil, he, e6, hw7, hw8, show ¬ L = 0 by omega, show ¬ L = -1 by omega]
      refine ro_j4 (L := L) (p := 1 + b.tmod L) (x := x) hke hrd hap hL2 hg (by omega) (by omega) (by omega) (Nat.le_refl _) (by omega) (by simp [e5]) (by simp [e6]) (by simp [e7]) (by simp) hrow fun t' H2 n' x' h1 h2 h3 h4 h5 h6 hn' => ?_
      have q8 := (h1 8 (by simp)).trans (show _ = .int .i64 i by simp [e8])
      simp [q8, hw6]
      refine kLoop_nrm _ _ _ _ (Sub_refl _ _) ⟨by simp [h1 0 (by simp), e0], by simp [h1 5 (by simp), e5], by simp [h1 6 (by simp), e6], i + 1, by omega, by omega, x', by simp [h2], by simp, by simpa using h3, h4, by omega, by simp; omega⟩ (by simp [q8]; omega)
    · simp [hil]
      refine ro_j4 (L := L) (p := (i : Int) - ps.length + 1) (x := x) hke hrd hap hL2 hg (by omega) (by omega) (by omega) (Nat.le_refl _) (by omega) (by simp [e5]) (by simp [e6]) (by simp [e7]) (by simp) hrow fun t' H2 n' x' h1 h2 h3 h4 h5 h6 hn' => ?_
      have q8 := (h1 8 (by simp)).trans (show _ = .int .i64 i by simp [e8])
      simp [q8, hw6]
      refine kLoop_nrm _ _ _ _ (Sub_refl _ _) ⟨by simp [h1 0 (by simp), e0], by simp [h1 5 (by simp), e5], by simp [h1 6 (by simp), e6], i + 1, by omega, by omega, x', by simp [h2], by simp, by simpa using h3, h4, by omega, by simp; omega⟩ (by simp [q8]; omega)
  · have hw9 := w64 (x := L + 1) (by omega) (by omega)
    have hap2 := hg.a
    have key : ∀ (T : Nat → Value), T 0 = deep (ps.map (.int .u8)) → T 6 = .int .i64 L → T 7 = .int .i64 (x.ap + 1) →
        wpc (PCalls P) P (fun _ => False) nx (law25_ReceiverOrderC_j6 aw) (fin nx [.t 4] (fun r H' _ => r = .bool true)) ⟨T, H', nx'⟩ := by
      intro T e0 e6 e7
      by_cases h150 : (150 : Int) < ps.length
      · simp [law25_ReceiverOrderC_j6, e0, e6, e7, hw9, h150]
        refine wCall_eq (Q := fun r => r = .bool true) (haw _ _) fun r n5 hr hn5 => ?_
        subst hr
        simp
        exact wF_of rfl
      · have hxL : x.ap = L := by
          rcases Nat.lt_or_ge i 200 with h | h
          · have : ¬ (i : Int) < ps.length + L := fun h' => hlt ⟨h', h⟩
            omega
          · omega
        simp [law25_ReceiverOrderC_j6, e0, e6, e7, hw9, h150, hxL]
        refine wCall_eq (Q := fun r => r = .bool true) (haw _ _) fun r n5 hr hn5 => ?_
        subst hr
        simp
        exact wF_of rfl
    by_cases hA : (i : Int) < ps.length + L
    · have hB : ¬ (i : Int) < 200 := fun h => hlt ⟨hA, by omega⟩
      simp [hA, hB]
      exact key _ (by simp [e0]) (by simp [e6]) (by simp [e7])
    · simp [hA]
      exact key _ (by simp [e0]) (by simp [e6]) (by simp [e7])
end Go.PE
namespace Go.PE
open Go
theorem bytesI_of {P : Program} {e : Nat} (he : P.underlying e = some (.int .u8)) {v : Value} (h : FKok P (.sl e) v) : ∃ l : List Int, v = bytesV l ∧ inBytes l := by
  obtain ⟨xs, rfl, hl, hx⟩ := h
  obtain ⟨l, h1, h2, h3⟩ := elems_of (Value.int .u8) (fun n => 0 ≤ n ∧ n ≤ 255) (fun x hx => by
    obtain ⟨n, h1, h2, h3⟩ := int_of he hx
    have : IntKind.u8.max = 255 := rfl
    have h4 : IntKind.u8.min = 0 := rfl
    exact ⟨n, h1, by omega, by omega⟩) xs hx
  exact ⟨l, by rw [h1]; rfl, by omega, h3⟩
theorem i64_rng {n : Int} (h0 : IntKind.i64.min ≤ n) (h1 : n ≤ IntKind.i64.max) : inI64 n := by
  have a : IntKind.i64.min = -9223372036854775808 := rfl
  have b : IntKind.i64.max = 9223372036854775807 := rfl
  unfold inI64; omega
theorem itm_of {P : Program} {t e : Nat} (he : P.underlying e = some (.int .u8)) (h : ∃ fs, P.underlying t = some (.struct fs)) (hf : flat P 4 t = some ([.int .i64, .int .i64, .int .i64] ++ (List.replicate 32 (.int .u8) ++ ([.sl e] ++ List.replicate 32 (.int .u8))))) {cs : List Value} (hp : PTy P t cs) :
    ∃ c : Itm, toV P t cs = c.v ∧ c.wf ∧ c.rng := by
  obtain ⟨fs, h⟩ := h
  obtain ⟨_, w0, rfl, ⟨a, rfl, ha0, ha1⟩, k0⟩ := fk_cons (flat_ok 4 t _ cs hf hp)
  obtain ⟨_, w1, rfl, ⟨b, rfl, _, _⟩, k1⟩ := fk_cons k0
  obtain ⟨_, w2, rfl, ⟨c, rfl, _, _⟩, k2⟩ := fk_cons k1
  obtain ⟨n, w3, rfl, hn, k3⟩ := fk_append (l := List.replicate 32 (.int .u8)) k2
  obtain ⟨ln, rfl, hln⟩ := fk_rep hn
  obtain ⟨_, w4, rfl, h4, k4⟩ := fk_cons k3
  obtain ⟨lt, rfl, hlt⟩ := fk_rep k4
  obtain ⟨bx, rfl, hb⟩ := bytesI_of he h4
  exact ⟨⟨a, b, c, ⟨ln, hln⟩, bx, ⟨lt, hlt⟩⟩, toV_ag h _, hb, i64_rng ha0 ha1⟩
theorem rcv_of {P : Program} {t i e : Nat} (he : P.underlying e = some (.int .u8)) (hi : ∃ fs, P.underlying i = some (.struct fs)) (hif : flat P 4 i = some ([.int .i64, .int .i64, .int .i64] ++ (List.replicate 32 (.int .u8) ++ ([.sl e] ++ List.replicate 32 (.int .u8)))))
    (h : ∃ fs, P.underlying t = some (.struct fs)) (hf : flat P 4 t = some [.int .i64, .sl i]) {cs : List Value} (hp : PTy P t cs) : ∃ r : Rcv, toV P t cs = r.v ∧ inI64 r.ap ∧ (∀ x ∈ r.l, x.wf ∧ x.rng) ∧ r.l.length ≤ maxLen := by
  obtain ⟨fs, h⟩ := h
  obtain ⟨_, w0, rfl, ⟨a, rfl, ha0, ha1⟩, k0⟩ := fk_cons (flat_ok 4 t _ cs hf hp)
  obtain ⟨_, w1, rfl, ⟨xs, rfl, hl, hx⟩, k1⟩ := fk_cons k0
  obtain rfl := fk_nil k1
  obtain ⟨l, e1, e2, e3⟩ := elems_of Itm.v (fun x => x.wf ∧ x.rng) (fun x hx => itm_of he hi hif hx) xs hx
  rw [e1]
  exact ⟨⟨a, l⟩, toV_ag h _, i64_rng ha0 ha1, e3, by show l.length ≤ maxLen; omega⟩
theorem itm_bd {N : Nat} {c : Itm} (h : Bd N c.v) : c.bx.length ≤ N := by
  have h0 : ∀ x ∈ c.cells, Bd N x := Bd.of_ag (cs := c.cells) h
  have h1 := (h0 (bytesV c.bx) (List.mem_of_getElem? (Itm.get35 c))).of_deep
  simp at h1
  exact h1.1
theorem rcv_bd {N : Nat} {r : Rcv} (h : Bd N r.v) : ∀ x ∈ r.l, x.bx.length ≤ N := fun x hx => by
  have h0 : ∀ y ∈ r.cells, Bd N y := Bd.of_ag (cs := r.cells) h
  have h1 := (h0 (deep (r.l.map Itm.v)) (List.mem_of_getElem? (Rcv.get1 r))).of_deep
  exact itm_bd (h1.2 _ (List.mem_map.2 ⟨x, hx, rfl⟩))
theorem reach_fin {n : Nat} (h : n ≤ reachBytes) : n ≤ 140737488351232 := h
end Go.PE
