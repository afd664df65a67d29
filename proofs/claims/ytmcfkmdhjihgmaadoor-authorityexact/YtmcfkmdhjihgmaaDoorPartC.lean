/- The engine: which instructions may change places. The engine: regions that draw their order and write. The engine: the tree of the orders that differ, reckoned with numbers as sets. The engine, part 13: regions, code, functions. The engine, part 14: functions. The engine, part 15: how pure code is evaluated by simp. The engine, part 16: contracts in use. The engine, part 17: an argument, read in the world of the call, has a pure reading. The engine, part 18: from a contract of a law to what a row asks. The engine, part 19: small laws for the contracts. The engine, part 20: from a contract of a law to what a row asks, where the program's variables hold plain data. The deck: what its functions compute, for whatever program that holds them. The deck: what is known of what it draws: whatever it is, it is within its bounds. The deck: a new one, names, contexts. The deck: numbers up to a bound. Bits that the deck's masks want. -/
import Derived.Test.YtmcfkmdhjihgmaaDoorPartB
import Derived.Deep.Quiet
import Derived.KernelRfl
import Derived.Deep.Slices
import Derived.ChangeArms
import Derived.OpenShut
import Derived.ChangeSame
import Derived.Carry
import Derived.RowKit
import Derived.Laws.BitsLemmas
import Derived.Laws.Bits64
set_option linter.all false
namespace Go.PE
open Go

/-! slots turned -/
def applyU : List (Nat × Value) → (Nat → Value) → (Nat → Value)
  | [], t => t
  | (k, v) :: r, t => applyU r (upd t k v)
def keys (us : List (Nat × Value)) : List Nat := us.map (·.1)
theorem applyU_out : ∀ (us : List (Nat × Value)) (t : Nat → Value) (x : Nat), x ∉ keys us → applyU us t x = t x
  | [], _, _, _ => rfl
  | (k, v) :: r, t, x, h => by
    simp only [keys, List.map_cons, List.mem_cons, not_or] at h
    show applyU r (upd t k v) x = t x
    rw [applyU_out r _ x h.2, upd_ne _ _ h.1]
theorem applyU_in : ∀ (us : List (Nat × Value)) (t t' : Nat → Value) (x : Nat), (x ∈ keys us ∨ t x = t' x) → applyU us t x = applyU us t' x
  | [], t, t', x, h => by rcases h with h | h
                          · simp [keys] at h
                          · exact h
  | (k, v) :: r, t, t', x, h => by
    show applyU r (upd t k v) x = applyU r (upd t' k v) x
    refine applyU_in r _ _ x ?_
    by_cases hx : x ∈ keys r
    · exact .inl hx
    · right
      by_cases hk : x = k
      · subst hk; simp [upd]
      · rw [upd_ne _ _ hk, upd_ne _ _ hk]
        rcases h with h | h
        · simp only [keys, List.map_cons, List.mem_cons] at h
          rcases h with h | h
          · exact absurd h hk
          · exact absurd h hx
        · exact h
theorem applyU_comm (us vs : List (Nat × Value)) (t : Nat → Value) (h : ∀ x, x ∈ keys us → x ∉ keys vs) : applyU us (applyU vs t) = applyU vs (applyU us t) := by
  funext x
  by_cases hx : x ∈ keys us
  · rw [applyU_in us (applyU vs t) t x (.inl hx), applyU_out vs _ x (h x hx)]
  · rw [applyU_out us _ x hx]
    exact applyU_in vs t _ x (.inr (applyU_out us t x hx).symm)

def linOf (e : Nat) : Value → Option (List Value)
  | .func (.yield 1) xs ⟨[.int .i64 n]⟩ => if n = e then some xs.toList else none
  | _ => none
theorem linOf_iff (e : Nat) (v : Value) (xs : List Value) : linOf e v = some xs ↔ v = lin e xs := by
  constructor
  · intro h
    unfold linOf at h
    split at h
    · split at h
      · rename_i hn; subst hn; obtain rfl := Option.some.inj h; simp [lin]
      · cases h
    · cases h
  · rintro rfl; simp [linOf, lin]
def linNs (e : Nat) : Value → Option (List Value)
  | .func (.yield 1) ⟨[]⟩ ⟨[]⟩ => some []
  | v => linOf e v
theorem linNs_iff (e : Nat) (v : Value) (xs : List Value) : linNs e v = some xs ↔ (v = lin e xs ∨ (xs = [] ∧ v = ns [])) := by
  constructor
  · intro h
    unfold linNs at h
    split at h
    · obtain rfl := Option.some.inj h; exact .inr ⟨rfl, rfl⟩
    · exact .inl ((linOf_iff _ _ _).1 h)
  · rintro (rfl | ⟨rfl, rfl⟩)
    · have := (linOf_iff e (lin e xs) xs).2 rfl
      unfold linNs
      split
      · rename_i he; simp [lin] at he
      · exact this
    · rfl

/-! footprints -/
def oS : Operand → List Nat | .tmp t => [t] | _ => []
def ooS : Option Operand → List Nat | some x => oS x | none => []
def dS : Option Nat → List Nat | some d => [d] | none => []
def pS : List (List Value ⊕ (Operand × Nat)) → List Nat
  | [] => []
  | .inl _ :: r => pS r
  | .inr (x, _) :: r => oS x ++ pS r
def lS (l : List Operand) : List Nat := l.flatMap oS

/-- the slots that are looked at -/
def rdS : PI → List Nat
  | .mv x | .box _ x | .ldA _ x | .ld _ x | .nilc x | .un _ x | .cv _ x | .slen x | .fa _ x | .fldA _ _ x | .fld _ x | .len x => oS x
  | .steal t => [t]
  | .cnil _ | .alloc _ => []
  | .pick c a b => oS c ++ (oS a ++ oS b)
  | .build ps => pS ps
  | .mks _ _ _ ps => lS ps
  | .st _ x v => oS x ++ oS v
  | .sts x t => t :: oS x
  | .sc op _ => lS op.operands.toList
  | .bi _ x y | .bb _ x y | .mm _ x y | .six x y | .eqA _ _ x y | .ixS _ x y | .ixP _ _ x y | .ixA _ _ x y | .ix _ x y => oS x ++ oS y
  | .ssl x lo hi => oS x ++ (ooS lo ++ ooS hi)
  | .extr t _ => [t]
  | .slS _ x lo hi mx => oS x ++ (ooS lo ++ (ooS hi ++ ooS mx))
  | .mk _ _ _ _ l c => oS l ++ oS c
  | .app _ _ _ t x => t :: oS x
  | .call _ args => lS args
  | .mkf _ a b => lS a ++ lS b
  | .callv x args => oS x ++ lS args
  | .cns | .mks0 => []
  | .stN x | .lenB x | .capB x => oS x
  | .mkB _ _ _ l c => oS l ++ oS c
  | .appB _ _ _ t x => t :: oS x
  | .cpy _ x y | .ixB _ x y => oS x ++ oS y
  | .slB _ x lo hi mx => oS x ++ (ooS lo ++ (ooS hi ++ ooS mx))
  | .callB _ args => lS args
  | .xcall _ args => lS args
  | .mkM _ => []
  | .mset _ x k v => oS x ++ (oS k ++ oS v)
  | .mget _ x k | .mdel _ x k => oS x ++ oS k
  | .b2s x | .nilS _ x => oS x
/-- the slots that are turned, beside the one for the result -/
def wrS : PI → List Nat
  | .steal t | .extr t _ | .app _ _ _ t _ | .sts _ t => [t]
  | _ => []
/-- it may change places with others: it turns slots alone -/
def neutral : PI → Bool
  | .mv _ | .steal _ | .cnil _ | .pick .. | .build _ | .mks .. | .ldA .. | .ld false _ | .nilc _ | .bi .. | .bb .. | .un .. | .cv .. | .mm .. | .slen _ | .six .. | .ssl .. | .eqA .. | .fa .. | .fldA .. | .fld .. | .ixS .. | .ixP .. | .ixA .. | .ix ..
  | .extr .. | .slS .. | .mk .. | .len _ | .app .. | .mkf .. | .cns | .mks0 | .ixB .. | .lenB _ | .capB _ | .slB .. | .b2s _ => true
  | _ => false
/-- it looks at boxes -/
def looksH : PI → Bool
  | .ldA .. | .ld .. => true
  | _ => false
/-- it may turn boxes -/
def turnsH : PI → Bool
  | .alloc _ | .box .. | .ld true _ | .st .. | .sts .. | .call .. | .callv .. | .stN _ | .mkB .. | .appB .. | .cpy .. | .callB .. => true
  | _ => false

section
variable {C : Known} {P : Program} {T : Nat → Prop} {n0 : Nat} {d : Option Nat} {i : PI}

def Agree (S : List Nat) (s s' : PS) : Prop := ∀ x ∈ S, s.t x = s'.t x
theorem Agree.left {S S' : List Nat} {s s' : PS} (h : Agree (S ++ S') s s') : Agree S s s' := fun x hx => h x (List.mem_append_left _ hx)
theorem Agree.right {S S' : List Nat} {s s' : PS} (h : Agree (S ++ S') s s') : Agree S' s s' := fun x hx => h x (List.mem_append_right _ hx)
theorem Agree.ev {x : Operand} {s s' : PS} (h : Agree (oS x) s s') : s.ev x = s'.ev x := by
  cases x with
  | tmp t => show dg (s.t t) = dg (s'.t t); rw [h t (by simp [oS])]
  | const v => rfl
  | global g => rfl
  | func f => rfl
theorem Agree.bnd {x : Option Operand} {n : Nat} {s s' : PS} (h : Agree (ooS x) s s') : PE.bnd s x n = PE.bnd s' x n := by
  cases x with
  | none => rfl
  | some x =>
    have : s.ev x = s'.ev x := Agree.ev (by simpa [ooS] using h)
    simp only [PE.bnd, this]
theorem Agree.build : ∀ {ps : List (List Value ⊕ (Operand × Nat))} {s s' : PS}, Agree (pS ps) s s' → buildL s ps = buildL s' ps
  | [], _, _, _ => rfl
  | .inl z :: r, s, s', h => by simp only [buildL, Agree.build (ps := r) (s := s) (s' := s') h]
  | .inr (x, n) :: r, s, s', h => by
    have h1 : s.ev x = s'.ev x := Agree.ev (Agree.left h)
    simp only [buildL, h1, Agree.build (ps := r) (Agree.right h)]
theorem Agree.all {l : List Operand} {s s' : PS} (h : Agree (lS l) s s') : ∀ x ∈ l, s.ev x = s'.ev x := fun x hx => Agree.ev fun t ht => h t (List.mem_flatMap.2 ⟨x, hx, ht⟩)
theorem Agree.map {l : List Operand} {s s' : PS} (h : Agree (lS l) s s') : l.map s.ev = l.map s'.ev := List.map_congr_left h.all

/-- what a neutral instruction does -/
def Neu (stp : PS → (PS → Prop) → Prop) (rd wr : List Nat) (uh : Bool) : Prop :=
  ∃ E : PS → Option (List (Nat × Value)), (∀ s K, stp s K ↔ ∃ us, E s = some us ∧ K ⟨applyU us s.t, s.H, s.nx⟩) ∧ (∀ s us, E s = some us → ∀ k ∈ keys us, k ∈ wr) ∧
    ∀ s s', Agree rd s s' → (uh = true → s.H = s'.H) → E s = E s'

def dU (d : Option Nat) (v : Value) : List (Nat × Value) := match d with | some d => [(d, v)] | none => []
theorem putO_dU (s : PS) (d : Option Nat) (v : Value) : s.putO d v = ⟨applyU (dU d v) s.t, s.H, s.nx⟩ := by cases d <;> rfl
theorem keys_dU (d : Option Nat) (v : Value) : keys (dU d v) = dS d := by cases d <;> rfl

theorem neu_val {F : PS → Option Value} {rd : List Nat} {uh : Bool} (h1 : ∀ s K, PE.step C P T n0 d i s K = wO (F s) d s K) (h2 : ∀ s s', Agree rd s s' → (uh = true → s.H = s'.H) → F s = F s') :
    Neu (PE.step C P T n0 d i) rd (dS d) uh := by
  refine ⟨fun s => (F s).map (dU d), fun s K => ?_, fun s us hu k hk => ?_, fun s s' hA hH => by simp only [h2 s s' hA hH]⟩
  · rw [h1]
    constructor
    · rintro ⟨v, hv, hK⟩
      exact ⟨dU d v, by simp only [hv]; rfl, by rw [← putO_dU]; exact hK⟩
    · rintro ⟨us, hu, hK⟩
      obtain ⟨v, hv, rfl⟩ := Option.map_eq_some_iff.1 hu
      exact ⟨v, hv, by rw [putO_dU]; exact hK⟩
  · obtain ⟨v, hv, rfl⟩ := Option.map_eq_some_iff.1 hu
    rwa [keys_dU] at hk

/-- two slots: one of the operands' own, then the result's -/
theorem neu_two {F : PS → Option (Value × Value)} {rd : List Nat} {t : Nat} (h1 : ∀ s K, PE.step C P T n0 d i s K ↔ ∃ v w, F s = some (v, w) ∧ K ((s.put t v).putO d w)) (h2 : ∀ s s', Agree rd s s' → F s = F s') :
    Neu (PE.step C P T n0 d i) rd (t :: dS d) false := by
  refine ⟨fun s => (F s).map fun p => (t, p.1) :: dU d p.2, fun s K => ?_, fun s us hu k hk => ?_, fun s s' hA hH => by simp only [h2 s s' hA]⟩
  · rw [h1]
    constructor
    · rintro ⟨v, w, hv, hK⟩
      exact ⟨(t, v) :: dU d w, by simp only [hv]; rfl, by rw [putO_dU] at hK; exact hK⟩
    · rintro ⟨us, hu, hK⟩
      obtain ⟨⟨v, w⟩, hv, rfl⟩ := Option.map_eq_some_iff.1 hu
      exact ⟨v, w, hv, by rw [putO_dU]; exact hK⟩
  · obtain ⟨p, hv, rfl⟩ := Option.map_eq_some_iff.1 hu
    simp only [keys, List.map_cons, List.mem_cons] at hk ⊢
    rcases hk with hk | hk
    · exact .inl hk
    · right; rw [← keys_dU d p.2]; exact hk

theorem neutral_neu (h : neutral i = true) : Neu (PE.step C P T n0 d i) (rdS i) (wrS i ++ dS d) (looksH i) := by
  cases i with
  | mv x => exact neu_val (F := fun s => some (s.ev x)) (fun s K => by rw [wO_some]; rfl) (fun s s' hA _ => by rw [Agree.ev hA])
  | steal t => exact neu_two (F := fun s => some (dg (s.t t), s.t t)) (fun s K => by constructor
                                                                                     · intro h; exact ⟨_, _, rfl, h⟩
                                                                                     · rintro ⟨v, w, h1, h2⟩; cases h1; exact h2) (fun s s' hA => by rw [hA t (by simp [rdS])])
  | cnil e => exact neu_val (F := fun s => some (lin e [])) (fun s K => by rw [wO_some]; rfl) (fun s s' hA _ => rfl)
  | pick c a b => exact neu_val (fun s K => step_pick C P T n0 d s K c a b) (fun s s' hA _ => by rw [Agree.ev hA.left, Agree.ev hA.right.left, Agree.ev hA.right.right])
  | build ps => exact neu_val (fun s K => step_build C P T n0 d s K ps) (fun s s' hA _ => by rw [Agree.build hA])
  | mks e size tk ps =>
    refine neu_val (F := fun s => if okParts s size ps = true then some (if tk then lin e (ps.map s.ev) else deep (ps.map s.ev)) else none) (fun s K => ?_) (fun s s' hA _ => ?_)
    · rw [step_mks]
      by_cases hk : okParts s size ps = true
      · rw [if_pos hk, wO_some]; simp only [hk, true_and]
      · rw [if_neg hk, wO_none]; simp [hk]
    · have e1 : ps.map s.ev = ps.map s'.ev := Agree.map hA
      have e2 : okParts s size ps = okParts s' size ps := by
        have : ∀ l : List Operand, (∀ x ∈ l, s.ev x = s'.ev x) → okParts s size l = okParts s' size l := by
          intro l
          induction l with
          | nil => intro _; rfl
          | cons x r ih => intro h; simp only [okParts, h x (List.mem_cons_self ..), ih fun y hy => h y (List.mem_cons_of_mem _ hy)]
        exact this ps (Agree.all hA)
      rw [e1, e2]
  | ldA n x => exact neu_val (fun s K => step_ldA C P T n0 d s K n x) (fun s s' hA hH => by rw [Agree.ev hA, hH rfl])
  | ld st x =>
    cases st with
    | false => exact neu_val (fun s K => step_ld C P T n0 d s K x) (fun s s' hA hH => by rw [Agree.ev hA, hH rfl])
    | true => simp [neutral] at h
  | nilc x =>
    refine neu_val (F := fun s => if (addOff (s.ev x) 0).isSome = true then some (s.ev x) else none) (fun s K => ?_) (fun s s' hA _ => by rw [Agree.ev hA])
    rw [step_nilc]
    split
    · rename_i h; rw [wO_some]; simp [h]
    · rename_i h; rw [wO_none]; simp [h]
  | bi op x y => exact neu_val (fun s K => step_bi C P T n0 d s K op x y) (fun s s' hA _ => by rw [Agree.ev hA.left, Agree.ev hA.right])
  | bb neg x y => exact neu_val (fun s K => step_bb C P T n0 d s K neg x y) (fun s s' hA _ => by rw [Agree.ev hA.left, Agree.ev hA.right])
  | un op x => exact neu_val (fun s K => step_un C P T n0 d s K op x) (fun s s' hA _ => by rw [Agree.ev hA])
  | cv k x => exact neu_val (fun s K => step_cv C P T n0 d s K k x) (fun s s' hA _ => by rw [Agree.ev hA])
  | mm mx x y => exact neu_val (fun s K => step_mm C P T n0 d s K mx x y) (fun s s' hA _ => by rw [Agree.ev hA.left, Agree.ev hA.right])
  | slen x => exact neu_val (fun s K => step_slen C P T n0 d s K x) (fun s s' hA _ => by rw [Agree.ev hA])
  | b2s x => exact neu_val (fun s K => step_b2s C P T n0 d s K x) (fun s s' hA _ => by rw [Agree.ev hA])
  | six x y => exact neu_val (fun s K => step_six C P T n0 d s K x y) (fun s s' hA _ => by rw [Agree.ev hA.left, Agree.ev hA.right])
  | ssl x lo hi =>
    refine neu_val (F := fun s => (asStr (s.ev x)).bind fun b => (bnd s lo 0).bind fun l => (bnd s hi b.size).bind fun h => if l ≤ h ∧ h ≤ b.size then some (.string (b.extract l h)) else none) (fun s K => ?_) (fun s s' hA _ => ?_)
    · simp only [PE.step, wO, Option.bind_eq_some_iff]
      apply propext
      constructor
      · rintro ⟨b, l, h, h1, h2, h3, h4, h5, h6⟩; exact ⟨_, ⟨b, h1, l, h2, h, h3, by rw [if_pos ⟨h4, h5⟩]⟩, h6⟩
      · rintro ⟨v, ⟨b, h1, l, h2, h, h3, h4⟩, h6⟩
        split at h4
        · rename_i h0; obtain rfl := Option.some.inj h4; exact ⟨b, l, h, h1, h2, h3, h0.1, h0.2, h6⟩
        · cases h4
    · have e1 : ∀ n, bnd s lo n = bnd s' lo n := fun n => Agree.bnd hA.right.left
      have e2 : ∀ n, bnd s hi n = bnd s' hi n := fun n => Agree.bnd hA.right.right
      simp only [Agree.ev hA.left, e1, e2]
  | eqA neg ks x y => exact neu_val (fun s K => step_eqA C P T n0 d s K neg ks x y) (fun s s' hA _ => by rw [Agree.ev hA.left, Agree.ev hA.right])
  | fa off x => exact neu_val (fun s K => step_fa C P T n0 d s K off x) (fun s s' hA _ => by rw [Agree.ev hA])
  | fldA off n x => exact neu_val (fun s K => step_fldA C P T n0 d s K off n x) (fun s s' hA _ => by rw [Agree.ev hA])
  | fld off x => exact neu_val (fun s K => step_fld C P T n0 d s K off x) (fun s s' hA _ => by rw [Agree.ev hA])
  | ixS size x y => exact neu_val (fun s K => step_ixS C P T n0 d s K size x y) (fun s s' hA _ => by rw [Agree.ev hA.left, Agree.ev hA.right])
  | cns => exact neu_val (F := fun s => some (ns [])) (fun s K => by rw [wO_some]; rfl) (fun s s' hA _ => rfl)
  | mks0 => exact neu_val (F := fun s => some (ns [])) (fun s K => by rw [wO_some]; rfl) (fun s s' hA _ => rfl)
  | ixB size x y => exact neu_val (fun s K => step_ixB C P T n0 d s K size x y) (fun s s' hA _ => by rw [Agree.ev hA.left, Agree.ev hA.right])
  | lenB x => exact neu_val (fun s K => step_lenB C P T n0 d s K x) (fun s s' hA _ => by rw [Agree.ev hA])
  | capB x => exact neu_val (fun s K => step_capB C P T n0 d s K x) (fun s s' hA _ => by rw [Agree.ev hA])
  | slB size x lo hi mx =>
    refine neu_val (fun s K => step_slB C P T n0 d s K size x lo hi mx) (fun s s' hA _ => ?_)
    have e1 : ∀ n, bnd s lo n = bnd s' lo n := fun n => Agree.bnd hA.right.left
    have e2 : ∀ n, bnd s hi n = bnd s' hi n := fun n => Agree.bnd hA.right.right.left
    have e3 : ∀ n, bnd s mx n = bnd s' mx n := fun n => Agree.bnd hA.right.right.right
    simp only [Agree.ev hA.left, e1, e2, e3]
  | ixP len size x y => exact neu_val (fun s K => step_ixP C P T n0 d s K len size x y) (fun s s' hA _ => by rw [Agree.ev hA.left, Agree.ev hA.right])
  | ixA len size x y => exact neu_val (fun s K => step_ixA C P T n0 d s K len size x y) (fun s s' hA _ => by rw [Agree.ev hA.left, Agree.ev hA.right])
  | ix len x y => exact neu_val (fun s K => step_ix C P T n0 d s K len x y) (fun s s' hA _ => by rw [Agree.ev hA.left, Agree.ev hA.right])
  | extr t j =>
    refine neu_two (F := fun s => match s.t t with | .tuple vs => (vs.toList[j]?).map fun w => (tup (vs.toList.map dg1), dgT w) | _ => none) (fun s K => ?_) (fun s s' hA => by rw [hA t (by simp [rdS])])
    constructor
    · rintro ⟨l, v, h1, h2, h3⟩
      refine ⟨_, _, ?_, h3⟩
      rw [h1]
      show (l[j]?).map _ = _
      rw [h2]; rfl
    · rintro ⟨v, w, h1, h2⟩
      split at h1
      · rename_i vs hvs
        obtain ⟨u, hu, he⟩ := Option.map_eq_some_iff.1 h1
        cases he
        exact ⟨vs.toList, u, by rw [hvs]; simp [tup], hu, h2⟩
      · cases h1
  | slS size x lo hi mx =>
    refine neu_val (fun s K => step_slS C P T n0 d s K size x lo hi mx) (fun s s' hA _ => ?_)
    have e1 : ∀ n, bnd s lo n = bnd s' lo n := fun n => Agree.bnd hA.right.left
    have e2 : ∀ n, bnd s hi n = bnd s' hi n := fun n => Agree.bnd hA.right.right.left
    have e3 : ∀ n, bnd s mx n = bnd s' mx n := fun n => Agree.bnd hA.right.right.right
    simp only [Agree.ev hA.left, e1, e2, e3]
  | mk e size bytes z l c =>
    refine neu_val (F := fun s => (asInt (s.ev l)).bind fun p => (asInt (s.ev c)).bind fun r => if 0 ≤ p.2 ∧ p.2 ≤ r.2 ∧ r.2 ≤ maxLen ∧ r.2 * bytes ≤ 140737488355328 then some (lin e (List.replicate p.2.toNat z)) else none) (fun s K => ?_) (fun s s' hA _ => by rw [Agree.ev hA.left, Agree.ev hA.right])
    simp only [PE.step, wO, Option.bind_eq_some_iff]
    apply propext
    constructor
    · rintro ⟨kl, nl, kc, nc, h1, h2, h3, h4, h5, h6, h7⟩; exact ⟨_, ⟨(kl, nl), h1, (kc, nc), h2, by rw [if_pos ⟨h3, h4, h5, h6⟩]⟩, h7⟩
    · rintro ⟨v, ⟨⟨kl, nl⟩, h1, ⟨kc, nc⟩, h2, h3⟩, h7⟩
      split at h3
      · rename_i h0; obtain rfl := Option.some.inj h3; exact ⟨kl, nl, kc, nc, h1, h2, h0.1, h0.2.1, h0.2.2.1, h0.2.2.2, h7⟩
      · cases h3
  | len x => exact neu_val (fun s K => step_len C P T n0 d s K x) (fun s s' hA _ => by rw [Agree.ev hA])
  | app e size bytes t x =>
    refine neu_two (F := fun s => (linNs e (s.t t)).bind fun xs => (asDeep (s.ev x)).bind fun ys =>
      if (∀ y ∈ xs, (lc y).length = size) ∧ (∀ y ∈ ys, (lc y).length = size) ∧ xs.length + ys.length ≤ maxLen ∧ (xs.length + ys.length) * bytes ≤ 140737488355328 then some (deep xs, lin e (xs ++ ys)) else none) (fun s K => ?_) (fun s s' hA => ?_)
    · simp only [Option.bind_eq_some_iff]
      constructor
      · rintro ⟨xs, ys, h1, h2, h3, h4, h5, h6, h7⟩
        exact ⟨_, _, ⟨xs, (linNs_iff _ _ _).2 h1, ys, h2, by rw [if_pos ⟨h3, h4, h5, h6⟩]⟩, h7⟩
      · rintro ⟨v, w, ⟨xs, h1, ys, h2, h3⟩, h7⟩
        split at h3
        · rename_i h0; cases h3; exact ⟨xs, ys, (linNs_iff _ _ _).1 h1, h2, h0.1, h0.2.1, h0.2.2.1, h0.2.2.2, h7⟩
        · cases h3
    · have e1 : s.t t = s'.t t := hA t (by simp [rdS])
      have e2 : s.ev x = s'.ev x := Agree.ev fun y hy => hA y (by simp [rdS, hy])
      simp only [e1, e2]
  | mkf f a b => exact neu_val (F := fun s => some (clo f (a.map s.ev) (b.map s.ev))) (fun s K => by rw [wO_some]; rfl) (fun s s' hA _ => by rw [Agree.map hA.left, Agree.map hA.right])
  | _ => simp [neutral] at h
end
end Go.PE
namespace Go.PE
open Go

/-- an instruction in its place: the slot, the guard, the instruction -/
abbrev PO := Option Nat × Option (Nat × Bool) × PI

def Frm (stp : PS → (PS → Prop) → Prop) (rd wr : List Nat) (ch : Bool) : Prop :=
  ∀ (s1 s2 : PS) (K1 K2 : PS → Prop), s1.H = s2.H → s1.nx = s2.nx → Agree rd s1 s2 → stp s1 K1 →
    (∀ us H' nx', (∀ k ∈ keys us, k ∈ wr) → (ch = false → H' = s1.H) → K1 ⟨applyU us s1.t, H', nx'⟩ → K2 ⟨applyU us s2.t, H', nx'⟩) → stp s2 K2

theorem Neu.frm {stp : PS → (PS → Prop) → Prop} {rd wr : List Nat} {uh ch : Bool} (h : Neu stp rd wr uh) : Frm stp rd wr ch := by
  obtain ⟨E, h1, h2, h3⟩ := h
  intro s1 s2 K1 K2 hH hn hA hs hk
  obtain ⟨us, hu, hK⟩ := (h1 _ _).1 hs
  have he := h3 s1 s2 hA (fun _ => hH)
  refine (h1 _ _).2 ⟨us, by rw [← he]; exact hu, ?_⟩
  have := hk us s1.H s1.nx (h2 _ _ hu) (fun _ => rfl) hK
  rwa [hH, hn] at this

theorem Frm.mono {stp : PS → (PS → Prop) → Prop} {rd wr : List Nat} {ch : Bool} (h : Frm stp rd wr ch) {s : PS} {K K' : PS → Prop} (hK : ∀ s, K s → K' s) (hs : stp s K) : stp s K' :=
  h s s K K' rfl rfl (fun _ _ => rfl) hs fun _ _ _ _ _ h => hK _ h

theorem swap {si sj : PS → (PS → Prop) → Prop} {ri wi rj wj : List Nat} {uh ch : Bool} (hn : Neu si ri wi uh) (hf : Frm sj rj wj ch) (d1 : ∀ x ∈ wi, x ∉ rj) (d2 : ∀ x ∈ wi, x ∉ wj) (d3 : ∀ x ∈ ri, x ∉ wj)
    (d4 : uh = true → ch = false) {s : PS} {K : PS → Prop} (h : si s (fun s1 => sj s1 K)) : sj s (fun s2 => si s2 K) := by
  obtain ⟨E, e1, e2, e3⟩ := hn
  obtain ⟨us, hu, hj⟩ := (e1 _ _).1 h
  refine hf ⟨applyU us s.t, s.H, s.nx⟩ s _ _ rfl rfl (fun x hx => ?_) hj fun us' H' nx' hk hch hK => ?_
  · exact applyU_out us s.t x fun hxu => d1 x (e2 _ _ hu x hxu) hx
  · refine (e1 _ _).2 ⟨us, ?_, ?_⟩
    · rw [← hu]
      refine e3 _ _ (fun x hx => ?_) (fun h => hch (d4 h))
      exact applyU_out us' s.t x fun hxu => d3 x hx (hk x hxu)
    · show K ⟨applyU us (applyU us' s.t), H', nx'⟩
      rw [applyU_comm us us' s.t fun x hx hx' => d2 x (e2 _ _ hu x hx) (hk x hx')]
      exact hK

section
variable {P : Program} {T : Nat → Prop} {n0 : Nat} {d : Option Nat} {i : PI}

theorem PCalls_mono {f nx : Nat} {args : List Value} {H : Nat → Option (List Value)} {T : Nat → Prop} {R R' : Post}
    (h : PCalls P f args H nx T R) (hR : ∀ p H' nx', R p H' nx' → R' p H' nx') : PCalls P f args H nx T R' := by
  intro G own vs h1 h2 h3
  refine (h G own vs h1 h2 h3).mono ?_
  rintro e w' ⟨v, p, G', own', H', nx', a1, a2, a3, a4⟩
  exact ⟨v, p, G', own', H', nx', a1, a2, a3, hR _ _ _ a4⟩

/-- those that are served at all -/
def framed : PI → Bool
  | .alloc _ | .box .. | .ld true _ | .st .. | .sts .. | .call .. | .callv .. | .stN _ | .mkB .. | .appB .. | .cpy .. | .callB .. => true
  | _ => false

theorem framed_frm (h : framed i = true) : Frm (PE.step (PCalls P) P T n0 d i) (rdS i) (wrS i ++ dS d) true := by
  intro s1 s2 K1 K2 hH hn hA hs hk
  have one : ∀ (v : Value) H' nx', K1 ⟨(s1.putO d v).t, H', nx'⟩ → K2 ⟨(s2.putO d v).t, H', nx'⟩ := fun v H' nx' hK => by
    rw [putO_dU] at hK ⊢
    exact hk (dU d v) H' nx' (fun k hk => by rw [keys_dU] at hk; exact List.mem_append_right _ hk) (fun h => by cases h) hK
  cases i with
  | alloc row => simp only [PE.step] at hs ⊢; rw [← hH, ← hn]; exact one _ _ _ hs
  | box n x =>
    obtain ⟨l, h1, h2, h3⟩ := hs
    have hx : s1.ev x = s2.ev x := Agree.ev hA
    refine ⟨l, by rw [← hx]; exact h1, h2, ?_⟩
    rw [← hH, ← hn]
    exact one _ _ _ h3
  | ld st x =>
    cases st with
    | false => simp [framed] at h
    | true =>
      have hx : s1.ev x = s2.ev x := Agree.ev hA
      rcases hs with ⟨k, off, row, c, h1, h2, h3, h4, h5⟩ | ⟨h0, row, off, c, h1, h2, h3⟩
      case inr => exact .inr ⟨by rw [← hx]; exact h0, row, off, c, by rw [← hx, ← hH]; exact h1, h2, by
        have := one (dg1 c) s1.H s1.nx (by cases d <;> exact h3)
        rw [hH, hn] at this
        cases d <;> exact this⟩
      refine .inl ⟨k, off, row, c, by rw [← hx]; exact h1, by rw [← hH]; exact h2, h3, h4, ?_⟩
      have e : (s2.putO d c).nx = (s1.putO d c).nx := by cases d <;> exact hn.symm
      have := one c _ _ h5
      rw [hH, ← e] at this
      exact this
  | st n x v =>
    obtain ⟨k, off, row, l, h1, h2, h3, h4, h5, h6, h7⟩ := hs
    have hx : s1.ev x = s2.ev x := Agree.ev hA.left
    have hv : s1.ev v = s2.ev v := Agree.ev hA.right
    refine ⟨k, off, row, l, by rw [← hx]; exact h1, by rw [← hH]; exact h2, by rw [← hv]; exact h3, h4, h5, h6, ?_⟩
    rw [putO_dU] at h7 ⊢
    rw [← hH, ← hn]
    exact hk (dU d undef) _ _ (fun k hk => by rw [keys_dU] at hk; exact List.mem_append_right _ hk) (fun h => by cases h) h7
  | sts x t =>
    obtain ⟨k, off, row, h1, h2, h3, h4, h5, h6, h7⟩ := hs
    have hx : s1.ev x = s2.ev x := Agree.ev fun y hy => hA y (by simp [rdS, hy])
    have ht : s1.t t = s2.t t := hA t (by simp [rdS])
    refine ⟨k, off, row, by rw [← hx]; exact h1, by rw [← hH]; exact h2, h3, h4, by rw [← ht]; exact h5, by rw [← ht]; exact h6, ?_⟩
    rw [putO_dU] at h7 ⊢
    rw [← ht, ← hH]
    have := hk ((t, dg (s1.t t)) :: dU d undef) (upd s1.H k (some (row.set off (s1.t t)))) s1.nx (fun k hk => by
      simp only [keys, List.map_cons, List.mem_cons] at hk
      rcases hk with hk | hk
      · subst hk; simp [wrS]
      · have : k ∈ keys (dU d undef) := hk
        rw [keys_dU] at this; exact List.mem_append_right _ this) (fun h => by cases h) h7
    rw [hn] at this
    exact this
  | call f args =>
    obtain ⟨T', h1, h2, h3⟩ := hs
    have ha : args.map s1.ev = args.map s2.ev := Agree.map hA
    refine ⟨T', h1, by rw [← hH]; exact h2, ?_⟩
    rw [← ha, ← hH, ← hn]
    exact PCalls_mono h3 fun p H' nx' hK => one p H' nx' hK
  | callv x args =>
    obtain ⟨f, first, caps, hf, hok, T', h1, h2, h3⟩ := hs
    have hx : s1.ev x = s2.ev x := Agree.ev hA.left
    have ha : args.map s1.ev = args.map s2.ev := Agree.map hA.right
    refine ⟨f, first, caps, by rw [← hx]; exact hf, hok, T', h1, by rw [← hH]; exact h2, ?_⟩
    rw [← ha, ← hH, ← hn]
    exact PCalls_mono h3 fun p H' nx' hK => one p H' nx' hK
  | stN x =>
    obtain ⟨k, off, row, h1, h2, h3, h4, h5⟩ := hs
    have hx : s1.ev x = s2.ev x := Agree.ev hA
    refine ⟨k, off, row, by rw [← hx]; exact h1, by rw [← hH]; exact h2, h3, h4, ?_⟩
    rw [putO_dU] at h5 ⊢
    rw [← hH, ← hn]
    exact hk (dU d undef) _ _ (fun k hk => by rw [keys_dU] at hk; exact List.mem_append_right _ hk) (fun h => by cases h) h5
  | mkB size bytes zero l c =>
    obtain ⟨kl, nl, kc, nc, h1, h2, h3, h4, h5, h6, h7⟩ := hs
    have hl : s1.ev l = s2.ev l := Agree.ev hA.left
    have hc : s1.ev c = s2.ev c := Agree.ev hA.right
    refine ⟨kl, nl, kc, nc, by rw [← hl]; exact h1, by rw [← hc]; exact h2, h3, h4, h5, h6, ?_⟩
    rw [← hH, ← hn]
    exact one _ _ _ h7
  | appB size bytes zero t x =>
    obtain ⟨m, cells, h1, h2⟩ := hs
    have hx : s1.ev x = s2.ev x := Agree.ev fun y hy => hA y (by simp [rdS, hy])
    have ht : s1.t t = s2.t t := hA t (by simp [rdS])
    have hp : ∀ v, K1 (s1.putO d v) → K2 (s2.putO d v) := fun v hv => by
      rw [putO_dU] at hv ⊢
      rw [← hH, ← hn]
      exact hk (dU d v) _ _ (fun k hk => by rw [keys_dU] at hk; exact List.mem_append_right _ hk) (fun h => by cases h) hv
    have hpn : ∀ v, (s2.putO d v).nx = (s1.putO d v).nx := fun v => by cases d <;> exact hn.symm
    refine ⟨m, cells, by rw [← hx, ← hH]; exact h1, ?_⟩
    rcases h2 with ⟨xs, a1, a2, a3, a4, a5, a6⟩ | ⟨k, off, n, cap, row, a1, a2, a3, a4, a5, a6, a7, a8, a9⟩
    · refine .inl ⟨xs, by rw [← ht]; exact a1, a2, a3, a4, fun h0 => hp _ (a5 h0), fun h0 cap c1 c2 => ?_⟩
      rw [← hH, ← hn]
      exact one _ _ _ (a6 h0 cap c1 c2)
    · refine .inr ⟨k, off, n, cap, row, by rw [← ht]; exact a1, by rw [← hH]; exact a2, a3, a4, a5, a6, a7, fun h0 => ?_, fun h0 cap' c1 c2 => ?_⟩
      · have := one _ _ _ (a8 h0)
        rw [← hpn] at this
        rw [← hH]
        exact this
      · rw [← hH, ← hn]
        exact one _ _ _ (a9 h0 cap' c1 c2)
  | cpy size x y =>
    obtain ⟨k, off, n, cap, row, m, cells, h1, h2, h3, h4, h5, h6⟩ := hs
    have hx : s1.ev x = s2.ev x := Agree.ev hA.left
    have hy : s1.ev y = s2.ev y := Agree.ev hA.right
    have hpn : ∀ v, (s2.putO d v).nx = (s1.putO d v).nx := fun v => by cases d <;> exact hn.symm
    refine ⟨k, off, n, cap, row, m, cells, by rw [← hx]; exact h1, by rw [← hH]; exact h2, h3, h4, by rw [← hy, ← hH]; exact h5, ?_⟩
    have := one _ _ _ h6
    rw [← hpn] at this
    rw [← hH]
    exact this
  | callB f args =>
    obtain ⟨H1, args', h1, h2, h3⟩ := hs
    have ha : args.map s1.ev = args.map s2.ev := Agree.map hA
    have hp : ∀ v, K1 (s1.putO d v) → K2 (s2.putO d v) := fun v hv => by
      rw [putO_dU] at hv ⊢
      rw [← hH, ← hn]
      exact hk (dU d v) _ _ (fun k hk => by rw [keys_dU] at hk; exact List.mem_append_right _ hk) (fun h => by cases h) hv
    refine ⟨H1, args', by rw [← hH]; exact h1, by rw [← hH, ← ha]; exact h2, ?_⟩
    rcases h3 with ⟨T', b1, b2, b3⟩ | ⟨v, b1, b2, b3⟩
    · refine .inl ⟨T', b1, b2, ?_⟩
      rw [← hn]
      exact PCalls_mono b3 fun p H' nx' hK => one p H' nx' hK
    · refine .inr ⟨v, b1, ?_, hp v b3⟩
      rw [← hn]; exact b2
  | _ => simp [framed] at h
end

/-! with guards -/
section
variable (C : Known) (P : Program) (T : Nat → Prop) (n0 : Nat)

/-- is an operation guarded by this value and this wish carried out? -/
def gB (v : Value) (b : Bool) : Option Bool := match v with | .bool c => some (c == b) | .tuple ⟨[]⟩ => some false | _ => none
def gstep (x : PO) (s : PS) (K : PS → Prop) : Prop :=
  match x.2.1 with
  | none => PE.step C P T n0 x.1 x.2.2 s K
  | some (t, b) => ∃ c, gB (s.ev (.tmp t)) b = some c ∧ (c = true → PE.step C P T n0 x.1 x.2.2 s K) ∧ (c = false → K (s.putO x.1 undef))
def gRd (x : PO) : List Nat := (match x.2.1 with | none => [] | some (t, _) => [t]) ++ rdS x.2.2
def gWr (x : PO) : List Nat := wrS x.2.2 ++ dS x.1

theorem gstep_neu (x : PO) (h : neutral x.2.2 = true) : Neu (gstep C P T n0 x) (gRd x) (gWr x) (looksH x.2.2) := by
  obtain ⟨d, g, i⟩ := x
  obtain ⟨E, e1, e2, e3⟩ := neutral_neu (C := C) (P := P) (T := T) (n0 := n0) (d := d) h
  cases g with
  | none => exact ⟨E, e1, e2, fun s s' hA hH => e3 s s' (fun y hy => hA y (by simpa [gRd] using hy)) hH⟩
  | some tb =>
    obtain ⟨t, b⟩ := tb
    refine ⟨fun s => (gB (s.ev (.tmp t)) b).bind fun c => if c = true then E s else some (dU d undef), fun s K => ?_, fun s us hu k hk => ?_, fun s s' hA hH => ?_⟩
    · simp only [gstep, Option.bind_eq_some_iff]
      constructor
      · rintro ⟨c, hc, h1, h2⟩
        by_cases hcb : c = true
        · obtain ⟨us, hu, hK⟩ := (e1 _ _).1 (h1 hcb)
          exact ⟨us, ⟨c, hc, by rw [if_pos hcb]; exact hu⟩, hK⟩
        · exact ⟨_, ⟨c, hc, by rw [if_neg hcb]⟩, by have := h2 (by simpa using hcb); rwa [putO_dU] at this⟩
      · rintro ⟨us, ⟨c, hc, hu⟩, hK⟩
        refine ⟨c, hc, fun hcb => ?_, fun hcb => ?_⟩
        · rw [if_pos hcb] at hu; exact (e1 _ _).2 ⟨us, hu, hK⟩
        · rw [if_neg (by simp [hcb])] at hu; obtain rfl := Option.some.inj hu; rw [putO_dU]; exact hK
    · obtain ⟨c, hc, hu⟩ := Option.bind_eq_some_iff.1 hu
      split at hu
      · exact e2 _ _ hu k hk
      · obtain rfl := Option.some.inj hu
        rw [keys_dU] at hk
        exact List.mem_append_right _ hk
    · have h1 : s.ev (.tmp t) = s'.ev (.tmp t) := Agree.ev fun y hy => hA y (by simp only [oS, List.mem_cons, List.not_mem_nil, or_false] at hy; subst hy; simp [gRd])
      have h2 : E s = E s' := e3 s s' (fun y hy => hA y (by simp [gRd, hy])) hH
      simp only [h1, h2]

theorem gstep_frm_of (x : PO) {ch : Bool} (h : Frm (PE.step C P T n0 x.1 x.2.2) (rdS x.2.2) (wrS x.2.2 ++ dS x.1) ch) : Frm (gstep C P T n0 x) (gRd x) (gWr x) ch := by
  obtain ⟨d, g, i⟩ := x
  cases g with
  | none => exact fun s1 s2 K1 K2 hH hn hA hs hk => h s1 s2 K1 K2 hH hn (fun y hy => hA y (by simpa [gRd] using hy)) hs hk
  | some tb =>
    obtain ⟨t, b⟩ := tb
    intro s1 s2 K1 K2 hH hn hA hs hk
    obtain ⟨c, hc, h1, h2⟩ := hs
    have he : s1.ev (.tmp t) = s2.ev (.tmp t) := Agree.ev fun y hy => hA y (by simp only [oS, List.mem_cons, List.not_mem_nil, or_false] at hy; subst hy; simp [gRd])
    refine ⟨c, by rw [← he]; exact hc, fun hcb => h s1 s2 K1 K2 hH hn (fun y hy => hA y (by simp [gRd, hy])) (h1 hcb) hk, fun hcb => ?_⟩
    have := h2 hcb
    rw [putO_dU] at this ⊢
    have := hk (dU d undef) s1.H s1.nx (fun k hk => by rw [keys_dU] at hk; exact List.mem_append_right _ hk) (fun _ => rfl) this
    rwa [hH, hn] at this
end

section
variable (P : Program) (T : Nat → Prop) (n0 : Nat)
def served (x : PO) : Bool := neutral x.2.2 || framed x.2.2
theorem gstep_frm (x : PO) (h : served x = true) : Frm (gstep (PCalls P) P T n0 x) (gRd x) (gWr x) (framed x.2.2) := by
  simp only [served, Bool.or_eq_true] at h
  by_cases hf : framed x.2.2 = true
  · rw [hf]; exact gstep_frm_of _ _ _ _ x (framed_frm hf)
  · exact (gstep_neu _ _ _ _ x (h.resolve_right hf)).frm

def disj (a b : List Nat) : Bool := a.all fun x => !b.contains x
theorem disj_iff {a b : List Nat} (h : disj a b = true) : ∀ x ∈ a, x ∉ b := fun x hx hb => by
  have := List.all_eq_true.1 h x hx
  simp [hb] at this
/-- x, which is neutral, and y may change places -/
def indep (x y : PO) : Bool := disj (gWr x) (gRd y) && disj (gWr x) (gWr y) && disj (gRd x) (gWr y) && (!looksH x.2.2 || !framed y.2.2)

theorem gswap {x y : PO} (hx : neutral x.2.2 = true) (hy : served y = true) (h : indep x y = true) {s : PS} {K : PS → Prop} (hs : gstep (PCalls P) P T n0 x s (fun s1 => gstep (PCalls P) P T n0 y s1 K)) :
    gstep (PCalls P) P T n0 y s (fun s2 => gstep (PCalls P) P T n0 x s2 K) := by
  simp only [indep, Bool.and_eq_true, Bool.or_eq_true, Bool.not_eq_true'] at h
  obtain ⟨⟨⟨h1, h2⟩, h3⟩, h4⟩ := h
  exact swap (gstep_neu _ _ _ _ x hx) (gstep_frm P T n0 y hy) (disj_iff h1) (disj_iff h2) (disj_iff h3) (fun hl => h4.resolve_left (by simp [hl])) hs

/-! whatever order -/
variable (ops : Array Oper) (L : List PO)
def stepAt (i : Nat) (s : PS) (K : PS → Prop) : Prop := match L[i]? with | some x => gstep (PCalls P) P T n0 x s K | none => K s
def wan : Nat → Array Bool → (PS → Prop) → PS → Prop
  | 0, listed, K, s => Region.ready .any ops listed = [] ∧ K s
  | fuel + 1, listed, K, s => (Region.ready .any ops listed = [] → K s) ∧ ∀ i ∈ Region.ready .any ops listed, stepAt P T n0 L i s (wan fuel (listed.setIfInBounds i true) K)

theorem set_comm (listed : Array Bool) (i j : Nat) : (listed.setIfInBounds i true).setIfInBounds j true = (listed.setIfInBounds j true).setIfInBounds i true := by
  apply Array.ext_getElem?
  intro k
  simp only [Array.getElem?_setIfInBounds, Array.size_setIfInBounds]
  repeat' split
  all_goals first | rfl | (subst_vars; simp_all)

theorem getD_unset {listed : Array Bool} {i j : Nat} (h : (listed.setIfInBounds i true).getD j true = false) : listed.getD j true = false := by
  by_cases hij : i = j
  · subst hij
    by_cases hlt : i < listed.size
    · simp [hlt] at h
    · have h0 : listed.size ≤ i := by omega
      simp [h0] at h
  · rwa [getD_set_ne true hij] at h

theorem wan_front {i : Nat} {x : PO} (hi : L[i]? = some x) (hx : neutral x.2.2 = true) (hsv : ∀ y ∈ L, served y = true) : ∀ (fuel : Nat) (listed : Array Bool) (K : PS → Prop) (s : PS), i ∈ Region.ready .any ops listed →
    (∀ j y, L[j]? = some y → j ≠ i → listed.getD j true = false → (∃ o, ops[j]? = some o ∧ ∃ e ∈ o.after, Region.binds .any e = true ∧ e.on = i) ∨ indep x y = true) →
    gstep (PCalls P) P T n0 x s (wan P T n0 ops L fuel (listed.setIfInBounds i true) K) → wan P T n0 ops L (fuel + 1) listed K s
  | fuel, listed, K, s, hr, hind, hs => by
    refine ⟨fun h0 => (by rw [h0] at hr; cases hr), fun j hj => ?_⟩
    by_cases hji : j = i
    · subst hji
      simp only [stepAt, hi]
      exact hs
    · have hj' := ready_mono (i := i) hj hji
      cases hy : L[j]? with
      | none =>
        simp only [stepAt, hy]
        cases fuel with
        | zero =>
          obtain ⟨E, e1, _, _⟩ := gstep_neu (PCalls P) P T n0 x hx
          obtain ⟨us, _, h0, _⟩ := (e1 _ _).1 hs
          rw [h0] at hj'; cases hj'
        | succ fuel =>
          have h2 := (gstep_frm P T n0 x (by simp [served, hx])).mono (K' := wan P T n0 ops L fuel ((listed.setIfInBounds j true).setIfInBounds i true) K) (fun s1 h1 => by
            have := h1.2 j hj'
            simp only [stepAt, hy] at this
            rw [set_comm]; exact this) hs
          exact wan_front hi hx hsv fuel _ K s (ready_mono hr (Ne.symm hji)) (fun j' y' hy' hne hun => hind j' y' hy' hne (getD_unset hun)) h2
      | some y =>
        simp only [stepAt, hy]
        have hdep : indep x y = true := by
          rcases hind j y hy hji (mem_ready.1 hj).1 with ⟨o, ho, e, he, hb, hon⟩ | h
          · exfalso
            obtain ⟨_, o', ho', hall⟩ := mem_ready.1 hj
            rw [ho] at ho'
            obtain rfl := Option.some.inj ho'
            have h1 := hall e he hb
            rw [hon] at h1
            have h2 := (mem_ready.1 hr).1
            simp only [Array.getD_eq_getD_getElem?] at h1 h2
            cases hc : listed[i]? with
            | none => rw [hc] at h2; simp at h2
            | some c => rw [hc] at h1 h2; simp at h1 h2; rw [h1] at h2; cases h2
          · exact h
        have hsy := hsv y (List.mem_of_getElem? hy)
        cases fuel with
        | zero =>
          obtain ⟨E, e1, _, _⟩ := gstep_neu (PCalls P) P T n0 x hx
          obtain ⟨us, _, h0, _⟩ := (e1 _ _).1 hs
          rw [h0] at hj'; cases hj'
        | succ fuel =>
          have h2 := (gstep_frm P T n0 x (by simp [served, hx])).mono (K' := fun s1 => gstep (PCalls P) P T n0 y s1 (wan P T n0 ops L fuel ((listed.setIfInBounds j true).setIfInBounds i true) K)) (fun s1 h1 => by
            have := h1.2 j hj'
            simp only [stepAt, hy] at this
            rw [set_comm]; exact this) hs
          have h3 := gswap P T n0 hx hsy hdep h2
          exact (gstep_frm P T n0 y hsy).mono (fun s2 h4 => wan_front hi hx hsv fuel _ K s2 (ready_mono hr (Ne.symm hji)) (fun j' y' hy' hne hun => hind j' y' hy' hne (getD_unset hun)) h4) h3

/-! the orders that differ, as a tree -/
inductive PT where
  | done
  | one (x : PO) (r : PT)
  | alt (a b : PT)
def wpt : PT → (PS → Prop) → PS → Prop
  | .done, K, s => K s
  | .one x r, K, s => gstep (PCalls P) P T n0 x s (wpt r K)
  | .alt a b, K, s => wpt a K s ∧ wpt b K s
def freeAt (listed : Array Bool) (i : Nat) : Bool :=
  match L[i]? with
  | none => false
  | some x => neutral x.2.2 && (List.range L.length).all fun j => j == i || listed.getD j true || (match ops[j]? with | some o => o.after.any (fun e => Region.binds .any e && e.on == i) | none => false) || (match L[j]? with | some y => indep x y | none => true)
def altAll : List (Option PT) → Option PT
  | [] => none
  | [x] => x
  | x :: r => match x, altAll r with | some a, some b => some (.alt a b) | _, _ => none
def mkT : Nat → Array Bool → Option PT
  | 0, listed => if (Region.ready .any ops listed).isEmpty then some .done else none
  | fuel + 1, listed => match Region.ready .any ops listed with
    | [] => some .done
    | rs => match rs.find? (freeAt ops L listed) with
      | some i => match L[i]? with | some x => (mkT fuel (listed.setIfInBounds i true)).map (.one x) | none => none
      | none => altAll (rs.map fun j => match L[j]? with | some x => (mkT fuel (listed.setIfInBounds j true)).map (.one x) | none => none)

theorem altAll_all {K : PS → Prop} {s : PS} : ∀ {l : List (Option PT)} {t : PT}, altAll l = some t → wpt P T n0 t K s → ∀ x ∈ l, ∃ t', x = some t' ∧ wpt P T n0 t' K s
  | [], t, h, _, x, hx => by cases hx
  | [y], t, h, hw, x, hx => by
    obtain rfl : x = y := by simpa using hx
    exact ⟨t, h, hw⟩
  | y :: z :: r, t, h, hw, x, hx => by
    unfold altAll at h
    split at h
    · rename_i a b hb
      obtain rfl := Option.some.inj h
      rcases List.mem_cons.1 hx with rfl | hx
      · exact ⟨_, rfl, hw.1⟩
      · exact altAll_all hb hw.2 x hx
    · cases h

theorem mkT_sound (hsv : ∀ y ∈ L, served y = true) : ∀ (fuel : Nat) (listed : Array Bool) (t : PT) (K : PS → Prop) (s : PS), mkT ops L fuel listed = some t → wpt P T n0 t K s → wan P T n0 ops L fuel listed K s
  | 0, listed, t, K, s, h, hw => by
    unfold mkT at h
    split at h
    · rename_i h0
      obtain rfl := Option.some.inj h
      exact ⟨by simpa using h0, hw⟩
    · cases h
  | fuel + 1, listed, t, K, s, h, hw => by
    unfold mkT at h
    split at h
    · rename_i h0
      obtain rfl := Option.some.inj h
      exact ⟨fun _ => hw, fun i hi => by rw [h0] at hi; cases hi⟩
    · rename_i rs hne
      split at h
      · rename_i i hi
        split at h
        · rename_i x hx
          obtain ⟨r, hr, rfl⟩ := Option.map_eq_some_iff.1 h
          have hmem := List.mem_of_find?_eq_some hi
          have hfree := List.find?_some hi
          simp only [freeAt, hx, Bool.and_eq_true, List.all_eq_true, List.mem_range] at hfree
          refine wan_front P T n0 ops L hx hfree.1 hsv fuel listed K s hmem (fun j y hy hne' hun => ?_) ?_
          · have := hfree.2 j (List.getElem?_eq_some_iff.1 hy).1
            simp only [hy, Bool.or_eq_true, beq_iff_eq, hne', false_or, hun, Bool.false_eq_true] at this
            rcases this with h1 | h1
            · left
              cases ho : ops[j]? with
              | none => rw [ho] at h1; cases h1
              | some o =>
                rw [ho] at h1
                obtain ⟨n, hn, hb⟩ := Array.any_eq_true.1 h1
                simp only [Bool.and_eq_true, beq_iff_eq] at hb
                exact ⟨o, rfl, o.after[n], Array.getElem_mem hn, hb.1, hb.2⟩
            · exact .inr h1
          · exact (gstep_frm P T n0 x (by simp [served, hfree.1])).mono (fun s1 h1 => mkT_sound hsv fuel _ r K s1 hr h1) hw
        · cases h
      · refine ⟨fun h0 => absurd h0 hne, fun i hi => ?_⟩
        obtain ⟨t', ht', hw'⟩ := altAll_all P T n0 h hw _ (List.mem_map.2 ⟨i, hi, rfl⟩)
        split at ht'
        · rename_i x hx
          obtain ⟨r, hr, rfl⟩ := Option.map_eq_some_iff.1 ht'
          simp only [stepAt, hx]
          exact (gstep_frm P T n0 x (hsv x (List.mem_of_getElem? hx))).mono (fun s1 h1 => mkT_sound hsv fuel _ r K s1 hr h1) hw'
        · cases ht'
end
end Go.PE
namespace Go.PE
open Go
def msk : List Nat → Nat
  | [] => 0
  | x :: r => 2 ^ x ||| msk r
theorem msk_bit (l : List Nat) (i : Nat) : (msk l).testBit i = true ↔ i ∈ l := by
  induction l with
  | nil => simp [msk]
  | cons x r ih =>
    unfold msk
    rw [Nat.testBit_or, Bool.or_eq_true, ih, Nat.testBit_two_pow, decide_eq_true_eq, List.mem_cons]
    exact ⟨fun h => h.imp Eq.symm id, fun h => h.imp Eq.symm id⟩
def subM (a m : Nat) : Bool := Nat.beq (a &&& m) a
theorem subM_iff (a m : Nat) : subM a m = true ↔ ∀ i, a.testBit i = true → m.testBit i = true := by
  unfold subM
  rw [Nat.beq_eq]
  constructor
  · intro h i hi
    have : (a &&& m).testBit i = true := by rw [h]; exact hi
    rw [Nat.testBit_and, Bool.and_eq_true] at this
    exact this.2
  · intro h
    refine Nat.eq_of_testBit_eq fun i => ?_
    rw [Nat.testBit_and]
    cases ha : a.testBit i with
    | false => rfl
    | true => rw [h i ha]; rfl
def sepM (a b : Nat) : Bool := Nat.beq (a &&& b) 0
theorem sepM_iff (a b : Nat) : sepM a b = true ↔ ∀ i, a.testBit i = true → b.testBit i = false := by
  unfold sepM
  rw [Nat.beq_eq]
  constructor
  · intro h i hi
    have : (a &&& b).testBit i = false := by rw [h]; simp
    rw [Nat.testBit_and, hi] at this
    simpa using this
  · intro h
    refine Nat.eq_of_testBit_eq fun i => ?_
    rw [Nat.testBit_and]
    cases ha : a.testBit i with
    | false => simp
    | true => rw [h i ha]; simp
theorem sepM_disj {a b : List Nat} (h : sepM (msk a) (msk b) = true) : disj a b = true := by
  unfold disj
  rw [List.all_eq_true]
  intro x hx
  have := (sepM_iff _ _).1 h x ((msk_bit _ _).2 hx)
  have hb : ¬ x ∈ b := fun hb => by rw [(msk_bit _ _).2 hb] at this; cases this
  simpa using hb
/-- an operation: what it writes and reads, whether it looks at boxes, whether it may turn them -/
structure QO where
  x : PO
  w : Nat
  r : Nat
  lk : Bool
  fr : Bool
  dep : Nat
def depM (o : Oper) : Nat := msk ((o.after.toList.filter fun e => Region.binds .any e).map (·.on))
def prepQ (x : PO) (o : Oper) : QO := ⟨x, msk (gWr x), msk (gRd x), looksH x.2.2, framed x.2.2, depM o⟩
def indM (a b : QO) : Bool := sepM a.w b.r && sepM a.w b.w && sepM a.r b.w && (!a.lk || !b.fr)
theorem indM_indep {x y : PO} {o p : Oper} (h : indM (prepQ x o) (prepQ y p) = true) : indep x y = true := by
  simp only [indM, prepQ, Bool.and_eq_true] at h
  simp only [indep, Bool.and_eq_true]
  exact ⟨⟨⟨sepM_disj h.1.1.1, sepM_disj h.1.1.2⟩, sepM_disj h.1.2⟩, h.2⟩
/-- those that do not change places with the i-th one, and need not wait for it -/
def confM (a : QO) (i : Nat) : List QO → Nat → Nat
  | [], _ => 0
  | b :: r, j => if Nat.beq j i || !sepM (2 ^ i) b.dep || indM a b then confM a i r (j + 1) else 2 ^ j ||| confM a i r (j + 1)
theorem confM_bit {a : QO} {i : Nat} : ∀ {l : List QO} {j k : Nat} {b : QO}, l[k]? = some b → (confM a i l j).testBit (j + k) = false → (j + k = i ∨ sepM (2 ^ i) b.dep = false ∨ indM a b = true)
  | [], j, k, b, h, _ => by simp at h
  | c :: r, j, 0, b, h, hb => by
    simp at h; subst h
    unfold confM at hb
    split at hb
    · rename_i hc
      simp only [Bool.or_eq_true, Bool.not_eq_true', Nat.beq_eq] at hc
      rcases hc with (hc | hc) | hc
      · exact .inl hc
      · exact .inr (.inl hc)
      · exact .inr (.inr hc)
    · rw [Nat.testBit_or, Nat.testBit_two_pow] at hb
      simp at hb
  | c :: r, j, k + 1, b, h, hb => by
    have hb' : (confM a i r (j + 1)).testBit (j + 1 + k) = false := by
      unfold confM at hb
      rw [show j + 1 + k = j + (k + 1) by omega]
      split at hb
      · exact hb
      · rw [Nat.testBit_or] at hb
        simp only [Bool.or_eq_false_iff] at hb
        exact hb.2
    have := confM_bit (l := r) (j := j + 1) (k := k) (by simpa using h) hb'
    rwa [show j + 1 + k = j + (k + 1) by omega] at this
/-- ready: its number, itself, with which it does not change places -/
def rdyM (m : Nat) : List (QO × Nat) → Nat → List (Nat × QO × Nat)
  | [], _ => []
  | (a, c) :: r, j => if sepM (2 ^ j) m && subM a.dep m then (j, a, c) :: rdyM m r (j + 1) else rdyM m r (j + 1)
theorem mem_rdyM {m : Nat} : ∀ {l : List (QO × Nat)} {j i : Nat} {a : QO} {c : Nat}, (i, a, c) ∈ rdyM m l j ↔ j ≤ i ∧ l[i - j]? = some (a, c) ∧ m.testBit i = false ∧ subM a.dep m = true
  | [], j, i, a, c => by simp [rdyM]
  | (b, d) :: r, j, i, a, c => by
    have ih := @mem_rdyM m r (j + 1) i a c
    have hs : sepM (2 ^ j) m = true ↔ m.testBit j = false := by
      rw [sepM_iff]
      constructor
      · intro h; exact h j (by rw [Nat.testBit_two_pow]; simp)
      · intro h k hk
        rw [Nat.testBit_two_pow, decide_eq_true_eq] at hk
        subst hk; exact h
    have hstep : ((i, a, c) ∈ rdyM m ((b, d) :: r) j) ↔ ((i = j ∧ a = b ∧ c = d ∧ m.testBit j = false ∧ subM b.dep m = true) ∨ (i, a, c) ∈ rdyM m r (j + 1)) := by
      rw [show rdyM m ((b, d) :: r) j = if sepM (2 ^ j) m && subM b.dep m then (j, b, d) :: rdyM m r (j + 1) else rdyM m r (j + 1) from rfl]
      split
      · rename_i h
        rw [Bool.and_eq_true, hs] at h
        simp only [List.mem_cons, Prod.mk.injEq]
        constructor
        · rintro (⟨h1, h2, h3⟩ | h1)
          · exact .inl ⟨h1, h2, h3, h.1, h.2⟩
          · exact .inr h1
        · rintro (⟨h1, h2, h3, _⟩ | h1)
          · exact .inl ⟨h1, h2, h3⟩
          · exact .inr h1
      · rename_i h
        rw [Bool.and_eq_true, hs] at h
        exact ⟨.inr, fun h1 => h1.elim (fun h2 => absurd ⟨h2.2.2.2.1, h2.2.2.2.2⟩ h) id⟩
    rw [hstep, ih]
    constructor
    · rintro (⟨rfl, rfl, rfl, h1, h2⟩ | ⟨h1, h2, h3⟩)
      · exact ⟨Nat.le_refl _, by simp, h1, h2⟩
      · refine ⟨by omega, ?_, h3⟩
        rw [show i - j = (i - (j + 1)) + 1 by omega]
        simpa using h2
    · rintro ⟨h1, h2, h3, h4⟩
      by_cases hij : i = j
      · subst hij
        simp at h2
        obtain ⟨rfl, rfl⟩ := h2
        exact .inl ⟨rfl, rfl, rfl, h3, h4⟩
      · refine .inr ⟨by omega, ?_, h3, h4⟩
        rw [show i - j = (i - (j + 1)) + 1 by omega] at h2
        simpa using h2
def mkM (D : List (QO × Nat)) : Nat → Nat → Option PT
  | 0, m => if (rdyM m D 0).isEmpty then some .done else none
  | fuel + 1, m => match rdyM m D 0 with
    | [] => some .done
    | rs => match rs.find? fun p => neutral p.2.1.x.2.2 && subM p.2.2 m with
      | some p => (mkM D fuel (2 ^ p.1 ||| m)).map (.one p.2.1.x)
      | none => altAll (rs.map fun p => (mkM D fuel (2 ^ p.1 ||| m)).map (.one p.2.1.x))
def prepL : List PO → List Oper → List QO
  | x :: l, o :: os => prepQ x o :: prepL l os
  | _, _ => []
def withC (all : List QO) : List QO → Nat → List (QO × Nat)
  | [], _ => []
  | a :: r, i => (a, confM a i all 0) :: withC all r (i + 1)
def dataM (ops : Array Oper) (L : List PO) : List (QO × Nat) := let q := prepL L ops.toList; withC q q 0
theorem prepL_get : ∀ {l : List PO} {os : List Oper} {i : Nat} {x : PO} {o : Oper}, l[i]? = some x → os[i]? = some o → (prepL l os)[i]? = some (prepQ x o)
  | [], _, i, x, o, h, _ => by simp at h
  | _ :: _, [], i, x, o, _, h => by simp at h
  | y :: l, p :: os, 0, x, o, h1, h2 => by simp at h1 h2; subst h1; subst h2; rfl
  | y :: l, p :: os, i + 1, x, o, h1, h2 => by
    unfold prepL
    simpa using prepL_get (l := l) (os := os) (by simpa using h1) (by simpa using h2)
theorem prepL_inv : ∀ {l : List PO} {os : List Oper} {i : Nat} {a : QO}, (prepL l os)[i]? = some a → ∃ x o, l[i]? = some x ∧ os[i]? = some o ∧ a = prepQ x o
  | [], _, i, a, h => by simp [prepL] at h
  | _ :: _, [], i, a, h => by simp [prepL] at h
  | y :: l, p :: os, 0, a, h => by
    simp [prepL] at h
    exact ⟨y, p, rfl, rfl, h.symm⟩
  | y :: l, p :: os, i + 1, a, h => by
    unfold prepL at h
    simpa using prepL_inv (l := l) (os := os) (i := i) (by simpa using h)
theorem withC_get {all : List QO} : ∀ {l : List QO} {j i : Nat} {a : QO} {c : Nat}, (withC all l j)[i]? = some (a, c) ↔ l[i]? = some a ∧ c = confM a (j + i) all 0
  | [], j, i, a, c => by simp [withC]
  | b :: r, j, 0, a, c => by
    simp only [withC, List.getElem?_cons_zero, Option.some.injEq, Prod.mk.injEq, Nat.add_zero]
    constructor
    · rintro ⟨rfl, rfl⟩; exact ⟨rfl, rfl⟩
    · rintro ⟨rfl, rfl⟩; exact ⟨rfl, rfl⟩
  | b :: r, j, i + 1, a, c => by
    simp only [withC, List.getElem?_cons_succ]
    rw [withC_get (l := r) (j := j + 1), show j + 1 + i = j + (i + 1) by omega]
theorem dataM_get {ops : Array Oper} {L : List PO} {i : Nat} {a : QO} {c : Nat} (h : (dataM ops L)[i]? = some (a, c)) : ∃ x o, L[i]? = some x ∧ ops[i]? = some o ∧ a = prepQ x o ∧ c = confM a i (prepL L ops.toList) 0 := by
  obtain ⟨h1, h2⟩ := withC_get.1 h
  obtain ⟨x, o, h3, h4, h5⟩ := prepL_inv h1
  exact ⟨x, o, h3, by simpa using h4, h5, by rw [h2, Nat.zero_add]⟩
theorem dataM_mk {ops : Array Oper} {L : List PO} {i : Nat} {x : PO} {o : Oper} (h1 : L[i]? = some x) (h2 : ops[i]? = some o) : (dataM ops L)[i]? = some (prepQ x o, confM (prepQ x o) i (prepL L ops.toList) 0) :=
  withC_get.2 ⟨prepL_get h1 (by simpa using h2), by rw [Nat.zero_add]⟩
theorem depM_bit {o : Oper} {i : Nat} : (depM o).testBit i = true ↔ ∃ e ∈ o.after, Region.binds .any e = true ∧ e.on = i := by
  unfold depM
  rw [msk_bit]
  simp only [List.mem_map, List.mem_filter, Array.mem_toList_iff]
  exact ⟨fun ⟨e, ⟨h1, h2⟩, h3⟩ => ⟨e, h1, h2, h3⟩, fun ⟨e, h1, h2, h3⟩ => ⟨e, ⟨h1, h2⟩, h3⟩⟩
def RelM (listed : Array Bool) (m n : Nat) : Prop := listed.size = n ∧ (∀ i, i < n → listed.getD i true = m.testBit i) ∧ ∀ i, n ≤ i → m.testBit i = false
theorem RelM.set {listed : Array Bool} {m n i : Nat} (h : RelM listed m n) (hi : i < n) : RelM (listed.setIfInBounds i true) (2 ^ i ||| m) n := by
  obtain ⟨h1, h2, h3⟩ := h
  refine ⟨by simpa using h1, fun j hj => ?_, fun j hj => ?_⟩
  · rw [Nat.testBit_or, Nat.testBit_two_pow]
    by_cases hij : i = j
    · subst hij; simp [h1, hi]
    · rw [getD_set_ne true hij, h2 j hj]; simp [hij]
  · rw [Nat.testBit_or, Nat.testBit_two_pow, h3 j hj]
    simp; omega
section
variable {ops : Array Oper} {L : List PO}
theorem ready_rdyM {listed : Array Bool} {m i : Nat} (hR : RelM listed m ops.size) (hl : L.length = ops.size) (hi : i ∈ Region.ready .any ops listed) : ∃ x o, L[i]? = some x ∧ ops[i]? = some o ∧ (i, prepQ x o, confM (prepQ x o) i (prepL L ops.toList) 0) ∈ rdyM m (dataM ops L) 0 := by
  obtain ⟨h1, o, ho, hall⟩ := mem_ready.1 hi
  have hlt : i < ops.size := (Array.getElem?_eq_some_iff.1 ho).1
  have hx : L[i]? = some (L[i]'(by omega)) := List.getElem?_eq_getElem _
  refine ⟨_, o, hx, ho, mem_rdyM.2 ⟨Nat.zero_le _, by rw [Nat.sub_zero]; exact dataM_mk hx ho, by rw [← hR.2.1 i hlt]; exact h1, (subM_iff _ _).2 fun j hj => ?_⟩⟩
  obtain ⟨e, he, hb, rfl⟩ := depM_bit.1 hj
  have h2 := hall e he hb
  by_cases hjn : e.on < ops.size
  · rw [← hR.2.1 _ hjn]
    have hs : e.on < listed.size := by rw [hR.1]; exact hjn
    simp only [Array.getD_eq_getD_getElem?, Array.getElem?_eq_getElem hs, Option.getD_some] at h2 ⊢
    exact h2
  · have hs : listed.size ≤ e.on := by rw [hR.1]; omega
    rw [Array.getD_eq_getD_getElem?, Array.getElem?_eq_none hs] at h2
    simp at h2
theorem rdyM_ready {listed : Array Bool} {m i c : Nat} {a : QO} (hR : RelM listed m ops.size) (hi : (i, a, c) ∈ rdyM m (dataM ops L) 0) : ∃ x o, L[i]? = some x ∧ ops[i]? = some o ∧ a = prepQ x o ∧ c = confM a i (prepL L ops.toList) 0 ∧ i ∈ Region.ready .any ops listed ∧ i < ops.size := by
  obtain ⟨_, h1, h2, h3⟩ := mem_rdyM.1 hi
  rw [Nat.sub_zero] at h1
  obtain ⟨x, o, hx, ho, rfl, rfl⟩ := dataM_get h1
  have hlt : i < ops.size := (Array.getElem?_eq_some_iff.1 ho).1
  refine ⟨x, o, hx, ho, rfl, rfl, mem_ready.2 ⟨by rw [hR.2.1 i hlt]; exact h2, o, ho, fun e he hb => ?_⟩, hlt⟩
  have h4 := (subM_iff _ _).1 h3 e.on (depM_bit.2 ⟨e, he, hb, rfl⟩)
  have hjn : e.on < ops.size := by
    rcases Nat.lt_or_ge e.on ops.size with h | h
    · exact h
    · rw [hR.2.2 _ h] at h4; cases h4
  rw [← hR.2.1 _ hjn] at h4
  have hs : e.on < listed.size := by rw [hR.1]; exact hjn
  simp only [Array.getD_eq_getD_getElem?, Array.getElem?_eq_getElem hs, Option.getD_some] at h4 ⊢
  exact h4
variable (P : Program) (T : Nat → Prop) (n0 : Nat)
theorem mkM_sound (hl : L.length = ops.size) (hsv : ∀ y ∈ L, served y = true) : ∀ (fuel : Nat) (listed : Array Bool) (m : Nat) (t : PT) (K : PS → Prop) (s : PS), RelM listed m ops.size → mkM (dataM ops L) fuel m = some t → wpt P T n0 t K s → wan P T n0 ops L fuel listed K s
  | 0, listed, m, t, K, s, hR, h, hw => by
    unfold mkM at h
    split at h
    · rename_i h0
      obtain rfl := Option.some.inj h
      refine ⟨?_, hw⟩
      rw [List.eq_nil_iff_forall_not_mem]
      intro i hi
      obtain ⟨x, o, _, _, h1⟩ := ready_rdyM (L := L) hR hl hi
      rw [List.isEmpty_iff.1 h0] at h1; cases h1
    · cases h
  | fuel + 1, listed, m, t, K, s, hR, h, hw => by
    unfold mkM at h
    split at h
    · rename_i h0
      obtain rfl := Option.some.inj h
      refine ⟨fun _ => hw, fun i hi => ?_⟩
      obtain ⟨x, o, _, _, h1⟩ := ready_rdyM (L := L) hR hl hi
      rw [h0] at h1; cases h1
    · rename_i rs hne
      split at h
      · rename_i p hp
        obtain ⟨r, hr, rfl⟩ := Option.map_eq_some_iff.1 h
        obtain ⟨i, a, c⟩ := p
        have hmem := List.mem_of_find?_eq_some hp
        have hfree := List.find?_some hp
        obtain ⟨x, o, hx, ho, rfl, rfl, hrd, hlt⟩ := rdyM_ready hR hmem
        simp only [Bool.and_eq_true] at hfree
        have hn : neutral x.2.2 = true := hfree.1
        refine wan_front P T n0 ops L hx hn hsv fuel listed K s hrd (fun j y hy hne' hun => ?_) ?_
        · have hj : j < ops.size := by rw [← hl]; exact (List.getElem?_eq_some_iff.1 hy).1
          have hoj : ops[j]? = some ops[j] := Array.getElem?_eq_getElem hj
          have hbit : (confM (prepQ x o) i (prepL L ops.toList) 0).testBit (0 + j) = false := by
            rw [Nat.zero_add]
            cases hb : (confM (prepQ x o) i (prepL L ops.toList) 0).testBit j with
            | false => rfl
            | true =>
              have := (subM_iff _ _).1 hfree.2 j hb
              rw [← hR.2.1 j hj, hun] at this; cases this
          rcases confM_bit (prepL_get hy (show ops.toList[j]? = some ops[j] by rw [Array.getElem?_toList]; exact hoj)) hbit with h1 | h1 | h1
          · exact absurd (by omega) hne'
          · left
            have : ¬ ∀ k, (2 ^ i).testBit k = true → (depM ops[j]).testBit k = false := fun hall => by
              have := (sepM_iff _ _).2 hall
              rw [show sepM (2 ^ i) (depM ops[j]) = false from h1] at this; cases this
            have hd : (depM ops[j]).testBit i = true := by
              cases hd : (depM ops[j]).testBit i with
              | true => rfl
              | false => exact absurd (fun k hk => by rw [Nat.testBit_two_pow, decide_eq_true_eq] at hk; subst hk; exact hd) this
            obtain ⟨e, he, hb, hon⟩ := depM_bit.1 hd
            exact ⟨_, hoj, e, he, hb, hon⟩
          · exact .inr (indM_indep h1)
        · exact (gstep_frm P T n0 x (by simp [served, hn])).mono (fun s1 h1 => mkM_sound hl hsv fuel _ _ r K s1 (hR.set hlt) hr h1) hw
      · refine ⟨fun h0 => ?_, fun i hi => ?_⟩
        · cases hrs : rdyM m (dataM ops L) 0 with
          | nil => exact absurd hrs hne
          | cons q qs =>
            obtain ⟨i, a, c⟩ := q
            obtain ⟨_, _, _, _, _, _, hrd, _⟩ := rdyM_ready (L := L) (i := i) (a := a) (c := c) hR (by rw [hrs]; exact List.mem_cons_self ..)
            rw [h0] at hrd; cases hrd
        · obtain ⟨x, o, hx, ho, hm⟩ := ready_rdyM (L := L) hR hl hi
          have hlt : i < ops.size := (Array.getElem?_eq_some_iff.1 ho).1
          obtain ⟨t', ht', hw'⟩ := altAll_all P T n0 h hw _ (List.mem_map.2 ⟨_, hm, rfl⟩)
          obtain ⟨r, hr, rfl⟩ := Option.map_eq_some_iff.1 ht'
          simp only [stepAt, hx]
          exact (gstep_frm P T n0 x (hsv x (List.mem_of_getElem? hx))).mono (fun s1 h1 => mkM_sound hl hsv fuel _ _ r K s1 (hR.set hlt) hr h1) hw'
end
end Go.PE
namespace Go.PE
open Go

inductive PC where
  | skip
  | reg (l : List PO)
  | drw (l : List PO)
  | ord (t : PT)
  | seq (a b : PC)
  | cond (c : Operand) (t e : PC)
  | block (id : Nat) (c : PC)
  | loop (c : PC)
  | exit (id : Nat)
  | ret

inductive Ex where
  | nrm
  | ext (id : Nat)
  | rt

def wpr (C : Known) (P : Program) (T : Nat → Prop) (n0 : Nat) : List PO → (PS → Prop) → PS → Prop
  | [], K, s => K s
  | (d, none, i) :: r, K, s => step C P T n0 d i s (wpr C P T n0 r K)
  | (d, some (t, b), i) :: r, K, s => ∃ c, gB (s.ev (.tmp t)) b = some c ∧ (c = true → step C P T n0 d i s (wpr C P T n0 r K)) ∧ (c = false → wpr C P T n0 r K (s.putO d undef))

/-- in a region that draws its order: a call hands back one plain value -/
def qstep (C : Known) (P : Program) (T : Nat → Prop) (n0 : Nat) (d : Option Nat) (i : PI) (s : PS) (K : PS → Prop) : Prop :=
  match i with
  | .call f args => ∃ v, plain v = true ∧ C f (args.map s.ev) s.H s.nx (fun _ => False) (fun p _ _ => p = v) ∧ K (s.putO d v)
  | .callB f args => ∃ H1 args' v, Sub n0 H1 s.H ∧ Cvs n0 s.H H1 (args.map s.ev) args' ∧ plain v = true ∧ C f args' H1 s.nx (fun _ => False) (fun p _ _ => p = v) ∧ K (s.putO d v)
  | i => step C P T n0 d i s K

def wpq (C : Known) (P : Program) (T : Nat → Prop) (n0 : Nat) : List PO → (PS → Prop) → PS → Prop
  | [], K, s => K s
  | (d, none, i) :: r, K, s => qstep C P T n0 d i s (wpq C P T n0 r K)
  | (d, some (t, b), i) :: r, K, s => ∃ c, gB (s.ev (.tmp t)) b = some c ∧ (c = true → qstep C P T n0 d i s (wpq C P T n0 r K)) ∧ (c = false → wpq C P T n0 r K (s.putO d undef))

def wpc (C : Known) (P : Program) (T : Nat → Prop) (n0 : Nat) : PC → (Ex → PS → Prop) → PS → Prop
  | .skip, Q, s => Q .nrm s
  | .reg l, Q, s => wpr C P T n0 l (Q .nrm) s
  | .drw l, Q, s => wpq C P T n0 l (Q .nrm) s
  | .ord t, Q, s => wpt P T n0 t (Q .nrm) s
  | .seq a b, Q, s => wpc C P T n0 a (fun e s' => match e with | .nrm => wpc C P T n0 b Q s' | e => Q e s') s
  | .cond c t e, Q, s => ∃ b, asBool (s.ev c) = some b ∧ (b = true → wpc C P T n0 t Q s) ∧ (b = false → wpc C P T n0 e Q s)
  | .block id c, Q, s => wpc C P T n0 c (fun e s' => match e with | .ext id' => if id' = id then Q .nrm s' else Q (.ext id') s' | e => Q e s') s
  | .loop c, Q, s => ∃ (I : PS → Prop) (μ : PS → Nat), I s ∧ ∀ s', I s' → wpc C P T n0 c (fun e s'' => match e with
      | .nrm => ∃ H1, Sub n0 H1 s''.H ∧ I { s'' with H := H1 } ∧ μ { s'' with H := H1 } < μ s'
      | e => Q e s'') s'
  | .exit id, Q, s => Q (.ext id) s
  | .ret, Q, s => Q .rt s

section compile
variable (P : Program) (N : Nat) (bx : List Nat)

def compGuard (ops : Array Oper) (o : Oper) : Option (Option (Nat × Bool)) :=
  match o.guard with
  | none => some none
  | some (j, b) => match (ops[j]?).bind (·.dst) with
    | some t => if t < N then some (some (t, b)) else none
    | none => none

def compList (ops : Array Oper) : List Oper → Option (List PO)
  | [] => some []
  | o :: r => match comp1X P N ops bx o, compGuard N ops o, compList ops r with
    | some i, some g, some l => some ((o.dst, g, i) :: l)
    | _, _, _ => none

/-- is there a list in a value of the type? -/
def listTy : Nat → TypeId → Bool
  | 0, _ => false
  | n + 1, t => match P.underlying t with
    | some (.slice _) | some (.pointer _) => true
    | some (.struct fs) => fs.toList.any fun f => listTy n f.type
    | _ => false
/-- a call that gives a list: its place is not the same in all orders -/
def listCall (o : Oper) : Bool := match o.op with | .call _ => listTy P 3 o.type | _ => false
def compCode : Code → Option PC
  | .skip => some .skip
  | .region _ ops false => (compList P N bx ops ops.toList).map .reg
  | .region _ ops true => match compList P N bx ops ops.toList with
    | some l => if (l.all (fun x => qOK x.2.2) && !ops.toList.any (listCall P)) && Region.lexB .any ops && P.follows .mixedOrders then some (.drw l)
      else if l.all served && P.follows .mixedOrders then (mkM (dataM ops l) ops.size 0).map .ord else none
    | none => none
  | .seq a b => match compCode a, compCode b with
    | some x, some y => some (.seq x y)
    | _, _ => none
  | .cond c a b => match compCode a, compCode b with
    | some x, some y => if okOpd P N c then some (.cond c x y) else none
    | _, _ => none
  | .block id c => (compCode c).map (.block id)
  | .loop c => (compCode c).map .loop
  | .exit id => some (.exit id)
  | .ret => some .ret
  | _ => none
end compile

section
variable {q : Par} {own : Nat → Option Pos} {s : PS} {a : Act} {G : Gh} {bx : List Nat}

/-- what holds really where Q holds purely -/
def Real (q : Par) (Q : Ex → PS → Prop) : Exit → Act → World → Prop := fun e a w => ∃ own s G, G.w = w ∧ Inv q own s a G ∧
  match e with
  | .normal => Q .nrm s
  | .exit id => Q (.ext id) s
  | .ret => Q .rt s
  | _ => False

theorem guard_rd (h : Inv q own s a G) {ops : Array Oper} {o : Oper} {j t : Nat} {b c : Bool} (hg : o.guard = some (j, b)) (hj : (ops[j]?).bind (·.dst) = some t) (ht : t < q.N) (hc : gB (s.ev (.tmp t)) b = some c) :
    Region.wanted o (yielded ops a.tmps) = c := by
  have hts : t < a.tmps.size := by rw [h.size]; exact ht
  have hrd := h.rd (x := .tmp t) (by simpa [okOpd] using ht)
  have hget : a.tmps[t]? = some (a.tmps.getD t undef) := by simp [Array.getD, hts]
  unfold gB at hc
  split at hc
  · rename_i c' he
    have hb := (rd_bool (h.rd (x := .tmp t) (by simpa [okOpd] using ht)) (by rw [he]; rfl : asBool (s.ev (.tmp t)) = some c')).1
    have : a.tmps[t]? = some (.bool c') := by rw [hget]; exact congrArg some hb
    obtain rfl := Option.some.inj hc
    simp [Region.wanted, hg, yielded, hj, this]
  · rename_i he
    rw [he] at hrd
    have hv : a.tmps.getD t undef = .tuple #[] := by
      have hrd' : Rd G (a.tmps.getD t undef) (.tuple ⟨[]⟩) := hrd
      generalize a.tmps.getD t undef = v at hrd'
      generalize hq : Value.tuple ⟨[]⟩ = p at hrd'
      cases hrd' with
      | tuple vs ps hl hr =>
        obtain rfl : ps = [] := by simpa [tup] using hq.symm
        obtain rfl : vs = [] := List.eq_nil_of_length_eq_zero (by simpa using hl)
        rfl
      | scal v h => subst hq; simp [PE.scal] at h
      | _ => simp [tup, PE.ptr, PE.deep, PE.lin, PE.dptr, ag, PE.slc, PE.clo, PE.ns] at hq
    obtain rfl := Option.some.inj hc
    have : a.tmps[t]? = some (.tuple #[]) := by rw [hget, hv]
    simp [Region.wanted, hg, yielded, hj, this]
  · cases hc

theorem wanted_none {ops : Array Oper} {o : Oper} (hg : o.guard = none) : Region.wanted o (yielded ops a.tmps) = true := by simp [Region.wanted, hg]

theorem wpr_sound {ops : Array Oper} {K : PS → Prop} {Qr : Exit → Act → World → Prop} (hK : Then q K (fun a w => Qr .normal a w)) :
    ∀ (l : List Oper) (pl : List PO) {own : Nat → Option Pos} {s : PS} {a : Act} {G : Gh}, compList q.P q.N bx ops l = some pl → Inv q own s a G → wpr (PCalls q.P) q.P q.T q.n0 pl K s → wpList q.P ops Qr l a G.w
  | [], pl, own, s, a, G, hc, h, hw => by
    obtain rfl : pl = [] := by simpa [compList] using hc.symm
    exact hK _ _ _ _ h hw
  | o :: r, pl, own, s, a, G, hc, h, hw => by
    simp only [compList] at hc
    split at hc
    · rename_i i g l hi hg hl
      obtain rfl := Option.some.inj hc
      obtain ⟨⟨_, hdoes⟩, hd⟩ := does_compX hi
      have hrest : Then q (wpr (PCalls q.P) q.P q.T q.n0 l K) (wpList q.P ops Qr r) := fun own s a G h hw => wpr_sound hK r l hl h hw
      unfold compGuard at hg
      split at hg
      · rename_i hgn
        obtain rfl := Option.some.inj hg
        unfold wpList
        rw [if_pos (wanted_none hgn)]
        exact .inl (hdoes _ _ _ _ _ _ _ h hw hrest)
      · rename_i j b hgs
        split at hg
        · rename_i t hj
          split at hg
          · rename_i ht
            obtain rfl := Option.some.inj hg
            obtain ⟨c, hc', h1, h2⟩ := hw
            unfold wpList
            rw [guard_rd h hgs hj ht hc']
            by_cases hcb : c = true
            · rw [if_pos (by simpa using hcb)]
              exact .inl (hdoes _ _ _ _ _ _ _ h (h1 hcb) hrest)
            · rw [if_neg (by simpa using hcb)]
              exact hrest _ _ _ _ (h.putO hd Rd_undef noLin_undef) (h2 (by simpa using hcb))
          · cases hg
        · cases hg
    · cases hc

theorem compList_len {P : Program} {N : Nat} {bx : List Nat} {ops : Array Oper} : ∀ {l : List Oper} {pl : List PO}, compList P N bx ops l = some pl → pl.length = l.length
  | [], pl, h => by
    obtain rfl : pl = [] := by simpa [compList] using h.symm
    rfl
  | o :: r, pl, h => by
    simp only [compList] at h
    split at h
    · rename_i i g l hi hg hl
      obtain rfl := Option.some.inj h
      simp [compList_len hl]
    · cases h
theorem compList_get {P : Program} {N : Nat} {bx : List Nat} {ops : Array Oper} : ∀ {l : List Oper} {pl : List PO}, compList P N bx ops l = some pl → ∀ (i : Nat) o, l[i]? = some o → ∃ pi g, comp1X P N ops bx o = some pi ∧ compGuard N ops o = some g ∧ pl[i]? = some (o.dst, g, pi)
  | [], _, _, i, o, h => by simp at h
  | o :: r, pl, hc, i, o', h => by
    simp only [compList] at hc
    split at hc
    · rename_i pi g l hi hg hl
      obtain rfl := Option.some.inj hc
      cases i with
      | zero => obtain rfl : o = o' := by simpa using h
                exact ⟨pi, g, hi, hg, rfl⟩
      | succ i => exact compList_get hl i o' (by simpa using h)
    · cases hc

theorem wan_sound {ops : Array Oper} {L : List PO} {K : PS → Prop} {Qr : Exit → Act → World → Prop} (hK : Then q K (fun a w => Qr .normal a w)) (hc : compList q.P q.N bx ops ops.toList = some L) :
    ∀ (fuel : Nat) (listed : Array Bool) {own : Nat → Option Pos} {s : PS} {a : Act} {G : Gh}, Inv q own s a G → wan q.P q.T q.n0 ops L fuel listed K s → wpAny q.P .any ops Qr fuel listed a G.w
  | 0, listed, own, s, a, G, h, hw => ⟨hw.1, hK _ _ _ _ h hw.2⟩
  | fuel + 1, listed, own, s, a, G, h, hw => by
    refine ⟨fun h0 => hK _ _ _ _ h (hw.1 h0), fun i hi => ?_⟩
    have hs := hw.2 i hi
    obtain ⟨_, o, ho, _⟩ := mem_ready.1 hi
    obtain ⟨pi, g, hpi, hg, hL⟩ := compList_get hc i o (by simpa using ho)
    simp only [stepAt, hL] at hs
    have hrest : Then q (wan q.P q.T q.n0 ops L fuel (listed.setIfInBounds i true) K) (wpAny q.P .any ops Qr fuel (listed.setIfInBounds i true)) := fun own s a G h hw => wan_sound hK hc fuel _ h hw
    obtain ⟨⟨_, hdoes⟩, hd⟩ := does_compX hpi
    unfold wpOp
    simp only [ho]
    unfold compGuard at hg
    split at hg
    · rename_i hgn
      obtain rfl := Option.some.inj hg
      rw [if_pos (wanted_none hgn)]
      exact .inl (hdoes _ _ _ _ _ _ _ h hs hrest)
    · rename_i j b hgs
      split at hg
      · rename_i t hj
        split at hg
        · rename_i ht
          obtain rfl := Option.some.inj hg
          obtain ⟨c, hc', h1, h2⟩ := hs
          rw [guard_rd h hgs hj ht hc']
          by_cases hcb : c = true
          · rw [if_pos (by simpa using hcb)]
            exact .inl (hdoes _ _ _ _ _ _ _ h (h1 hcb) hrest)
          · rw [if_neg (by simpa using hcb)]
            exact hrest _ _ _ _ (h.putO hd Rd_undef noLin_undef) (h2 (by simpa using hcb))
        · cases hg
      · cases hg

/-- the worlds that a region which only reads may leave -/
def Cls (G : Gh) (w : World) : Prop := ∃ G', Keep G G' ∧ G'.w = w

theorem Keep.trans {G G' G'' : Gh} (h : Keep G G') (k : Keep G' G'') : Keep G G'' :=
  ⟨fun b hb => ⟨(k.blk b (Nat.lt_of_lt_of_le hb h.sz)).1.trans (h.blk b hb).1, (k.blk b (Nat.lt_of_lt_of_le hb h.sz)).2.trans (h.blk b hb).2⟩, k.be.trans h.be, k.nx.trans h.nx, Nat.le_trans h.sz k.sz, k.os.trans h.os, k.tape.trans h.tape, k.output.trans h.output⟩

theorem still_qOK {ops : Array Oper} {o : Oper} {i : PI} (hc : comp1X q.P q.N ops bx o = some i) (hq : qOK i = true) (h : Inv q own s a G) {K : PS → Prop} (hs : qstep (PCalls q.P) q.P q.T q.n0 o.dst i s K) :
    ∃ v p, (∀ w', Cls G w' → o.quietAt q.P a (Cls G) w' v) ∧ Rd G v p ∧ noLin p ∧ K (s.putO o.dst p) := by
  rcases (does_compX hc).1.1 hq with ⟨hst, hnc⟩ | ⟨f, args, ts, fn, ho, hf, hb, hnm, hx, rfl | rfl⟩
  · have hs' : step (PCalls q.P) q.P q.T q.n0 o.dst i s K ∨ ∃ f args, i = .call f args := by
      cases i with
      | call f args => exact .inr ⟨_, _, rfl⟩
      | callB f args =>
        obtain ⟨H1, args', v, h1, h2, h3, h4, h5⟩ := hs
        exact .inl ⟨H1, args', h1, h2, .inr ⟨v, h3, h4, h5⟩⟩
      | _ => exact .inl hs
    rcases hs' with hs' | ⟨f, args, rfl⟩
    · obtain ⟨v, p, hr, hn, hk, hrun⟩ := hst _ _ _ _ _ h hs'
      refine ⟨v, p, fun w' ⟨G', hG, hw⟩ => ?_, hr, hn, hk⟩
      subst hw
      simp only [Oper.quietAt, hrun G' hG, Oper.quietUpon]
      exact ⟨trivial, trivial⟩
    · simp [isCall] at hnc
  · obtain ⟨v, hpv, hcall, hk⟩ := hs
    refine ⟨v, v, fun w' ⟨G', hG, hw⟩ => ?_, Rd_plain hpv, noLin_plain hpv, hk⟩
    subst hw
    have h' := h.keep hG
    have hE := h'.entry (T' := fun _ => False) (fun k hf => hf.elim) (fun k row hf => hf.elim)
    have := hcall G' own (args.toList.map a.eval) hE (by simp) (rd_map h' hx)
    rw [Oper.quietAt, run_call ho hf hb hnm, Oper.quietUpon]
    refine ⟨rfl, this.mono fun e w'' hpost => ?_⟩
    obtain ⟨rv, p, G'', own', H', nx', rfl, rfl, hL, rfl⟩ := hpost
    refine ⟨by rw [plain_eq hL.res hpv], ⟨⟨G''.w, G''.fr, G.be, G.nx⟩, hG.trans (G' := G') ⟨fun b hb' => hL.frame b hb' (fun k _ hf => hf), hG.be.symm, hG.nx.symm, hL.sz, hL.os, hL.tape, hL.output⟩, rfl⟩⟩
  · obtain ⟨H1, args', v, hsub, hcv, hpv, hcall, hk⟩ := hs
    refine ⟨v, v, fun w' ⟨G', hG, hw⟩ => ?_, Rd_plain hpv, noLin_plain hpv, hk⟩
    subst hw
    have h' := h.keep hG
    have hF := h'.freeze hsub
    obtain ⟨hl, hrd⟩ := rd_cvs h' hsub hx hcv
    have hE := hF.entry (T' := fun _ => False) (fun k hf => hf.elim) (fun k row hf => hf.elim)
    have := hcall (frz G' H1) own (args.toList.map a.eval) hE hl hrd
    rw [Oper.quietAt, run_call ho hf hb hnm, Oper.quietUpon]
    refine ⟨rfl, this.mono fun e w'' hpost => ?_⟩
    obtain ⟨rv, p, G'', own', H', nx', rfl, rfl, hL, rfl⟩ := hpost
    refine ⟨by rw [plain_eq hL.res hpv], ⟨⟨G''.w, fun b => if b < G'.w.heap.size then G'.fr b else 0, G'.be, G'.nx⟩, hG.trans (G' := G') ⟨fun b hb' => ⟨(hL.frame b hb' (fun k _ hf => hf)).1, if_pos hb'⟩, rfl, rfl, hL.sz, hL.os, hL.tape, hL.output⟩, rfl⟩⟩

theorem wpq_sound {ops : Array Oper} {K : PS → Prop} {Qr : Exit → Act → World → Prop} (hK : Then q K (fun a w => Qr .normal a w)) :
    ∀ (l : List Oper) (pl : List PO) {own : Nat → Option Pos} {s : PS} {a : Act} {G : Gh}, compList q.P q.N bx ops l = some pl → (∀ x ∈ pl, qOK x.2.2 = true) → Inv q own s a G → wpq (PCalls q.P) q.P q.T q.n0 pl K s →
      wpQuiet q.P ops (Cls G) (fun a' => ∀ w', Cls G w' → Qr .normal a' w') l a
  | [], pl, own, s, a, G, hc, hq, h, hw => by
    obtain rfl : pl = [] := by simpa [compList] using hc.symm
    rintro w' ⟨G', hG, rfl⟩
    exact hK _ _ _ _ (h.keep hG) hw
  | o :: r, pl, own, s, a, G, hc, hq, h, hw => by
    simp only [compList] at hc
    split at hc
    · rename_i i g l hi hg hl
      obtain rfl := Option.some.inj hc
      obtain ⟨_, hd⟩ := does_compX hi
      have hqi : qOK i = true := hq _ (List.mem_cons_self ..)
      have hql : ∀ x ∈ l, qOK x.2.2 = true := fun x hx => hq x (List.mem_cons_of_mem _ hx)
      have hquiet : qstep (PCalls q.P) q.P q.T q.n0 o.dst i s (wpq (PCalls q.P) q.P q.T q.n0 l K) → o.quiet q.P a (Cls G) (wpQuiet q.P ops (Cls G) (fun a' => ∀ w', Cls G w' → Qr .normal a' w') r) := fun hs => by
        obtain ⟨v, p, h1, h2, h3, h4⟩ := still_qOK hi hqi h hs
        exact ⟨v, h1, wpq_sound hK r l hl hql (h.putO hd h2 h3) h4⟩
      unfold compGuard at hg
      split at hg
      · rename_i hgn
        obtain rfl := Option.some.inj hg
        unfold wpQuiet
        rw [if_pos (wanted_none hgn)]
        exact hquiet hw
      · rename_i j b hgs
        split at hg
        · rename_i t hj
          split at hg
          · rename_i ht
            obtain rfl := Option.some.inj hg
            obtain ⟨c, hc', h1, h2⟩ := hw
            unfold wpQuiet
            rw [guard_rd h hgs hj ht hc']
            by_cases hcb : c = true
            · rw [if_pos (by simpa using hcb)]
              exact hquiet (h1 hcb)
            · rw [if_neg (by simpa using hcb)]
              exact wpq_sound hK r l hl hql (h.putO hd Rd_undef noLin_undef) (h2 (by simpa using hcb))
          · cases hg
        · cases hg
    · cases hc

/-- boxes of the call's own are forgotten -/
theorem Base.forget (h : Base q own s G) {H1 : Nat → Option (List Value)} (hs : Sub q.n0 H1 s.H) :
    ∃ G', G'.w = G.w ∧ G'.fr = G.fr ∧ Base q own { s with H := H1 } G' ∧ Ext G G' ∧ ∀ {base : Nat} {pos : Pos} {e : Nat} {v : Value}, TokOK q.P G own base pos e v → TokOK q.P G' own base pos e v := by
  let G' : Gh := ⟨G.w, G.fr, fun k => match H1 k with | none => none | some _ => G.be k, G.nx⟩
  have hbe : ∀ k, G'.be k = G.be k ∨ G'.be k = none := fun k => by
    cases hH : H1 k with
    | none => right; show (match H1 k with | none => none | some _ => G.be k) = _; rw [hH]
    | some r => left; show (match H1 k with | none => none | some _ => G.be k) = _; rw [hH]
  have hbe' : ∀ k b, G'.be k = some b → G.be k = some b ∧ H1 k ≠ none := fun k b hk => by
    have hk' : (match H1 k with | none => none | some _ => G.be k) = some b := hk
    cases hH : H1 k with
    | none => rw [hH] at hk'; cases hk'
    | some r => rw [hH] at hk'; exact ⟨hk', by simp⟩
  have hsome : ∀ k row, H1 k = some row → s.H k = some row ∧ G'.be k = G.be k := fun k row hk => by
    refine ⟨?_, ?_⟩
    · rcases hs k with h1 | ⟨_, h1⟩
      · rw [← h1]; exact hk
      · rw [hk] at h1; cases h1
    · show (match H1 k with | none => none | some _ => G.be k) = _
      rw [hk]
  have hext : Ext G G' := ⟨Nat.le_refl _, fun _ _ _ _ hu => hu, fun _ _ => Nat.le_refl _, fun k b hk _ => by rw [← hk]; exact hbe k, fun k hk _ => by
    rcases hbe k with h1 | h1
    · rw [h1]; exact hk
    · exact h1⟩
  have htok : ∀ {base : Nat} {pos : Pos} {e : Nat} {v : Value}, TokOK q.P G own base pos e v → TokOK q.P G' own base pos e v := by
    intro base pos e v ht
    exact ht.turn (fun b _ hk => ⟨rfl, rfl, fun k hk' => hk k (hbe' k b hk').1⟩) (fun _ hg => hg)
  refine ⟨G', rfl, rfl, ⟨⟨fun k row hk => ?_, fun k hk => ?_, fun k hk => ?_, h.nx, h.n0, fun k k' b hk hk' => h.inj k k' b (hbe' k b hk).1 (hbe' k' b hk').1, fun g b hg hb => h.gl g b hg (hbe' g b hb).1, h.ng, h.ol⟩, fun k hk => ?_, h.frame, h.sz, h.os, h.tape, h.output, fun base k i e xs hob hp => ?_, fun k hk hT => ?_⟩, hext, htok⟩
  · obtain ⟨hH, hb⟩ := hsome k row hk
    obtain ⟨b, e, cs, fz, hb', hh, hsz, hr, hf, hB⟩ := h.ob k row hH
    exact ⟨b, e, cs, fz, by rw [hb]; exact hb', hh, hsz, fun i v p hv hp => ⟨(hr i v p hv hp).1, (hr i v p hv hp).2.mono hext⟩, hf, hB⟩
  · have hk' : H1 k = none := hk
    show (match H1 k with | none => none | some _ => G.be k) = none
    rw [hk']
  · rcases hs k with h1 | ⟨_, h1⟩
    · show H1 k = none
      rw [h1]; exact h.nxH k hk
    · exact h1
  · have h1 : H1 k = s.H k := by
      rcases hs k with h1 | ⟨h0, _⟩
      · exact h1
      · omega
    rw [← h.bo k hk]
    cases hH : s.H k with
    | none =>
      have : G'.be k = none := by
        show (match H1 k with | none => none | some _ => G.be k) = none
        rw [h1, hH]
      rw [this, h.bn k hH]
    | some row => exact (hsome k row (by rw [h1, hH])).2
  · have hp' : pcell H1 k i = lin e xs := hp
    cases hH : H1 k with
    | none => simp [pcell, hH, undef, lin] at hp'
    | some row =>
      obtain ⟨hH', hb⟩ := hsome k row hH
      have hrc : rcell G' k i = rcell G k i := by simp only [rcell, hb]; rfl
      rw [hrc]
      exact htok (h.ctok base k i e xs hob (by simpa [pcell, hH, hH'] using hp'))
  · rcases hs k with h1 | ⟨h0, _⟩
    · show H1 k = _
      rw [h1]; exact h.hh k hk hT
    · omega

theorem Inv.forget (h : Inv q own s a G) {H1 : Nat → Option (List Value)} (hs : Sub q.n0 H1 s.H) : ∃ G', G'.w = G.w ∧ Inv q own { s with H := H1 } a G' := by
  obtain ⟨G', hw, _, hb, hext, htok⟩ := h.toBase.forget hs
  exact ⟨G', hw, hb, h.size, h.defers, fun t ht => (h.tm t ht).mono hext, fun t e xs ht hp => htok (h.ttok t e xs ht hp), fun t i e xs ht hp => htok (h.utok t i e xs ht hp), fun b es hp => (h.mps b es hp).same (by rw [hw])⟩

theorem wpc_sound : ∀ (c : Code) (pc : PC) (Q : Ex → PS → Prop) {own : Nat → Option Pos} {s : PS} {a : Act} {G : Gh}, compCode q.P q.N bx c = some pc → Inv q own s a G → wpc (PCalls q.P) q.P q.T q.n0 pc Q s → c.wp q.P (Real q Q) a G.w
  | .skip, pc, Q, own, s, a, G, hc, h, hw => by
    obtain rfl : pc = .skip := by simpa [compCode] using hc.symm
    exact _root_.Go.wp_skip ⟨own, s, G, rfl, h, hw⟩
  | .region id ops false, pc, Q, own, s, a, G, hc, h, hw => by
    obtain ⟨pl, hl, rfl⟩ := Option.map_eq_some_iff.1 (show (compList q.P q.N bx ops ops.toList).map PC.reg = some pc from hc)
    exact wp_region_list (wpr_sound (K := Q .nrm) (fun own s a G h hw => ⟨own, s, G, rfl, h, hw⟩) ops.toList pl hl h hw)
  | .region id ops true, pc, Q, own, s, a, G, hc, h, hw => by
    simp only [compCode] at hc
    split at hc
    · rename_i l hl
      split at hc
      · rename_i hcond
        simp only [Bool.and_eq_true] at hcond
        obtain rfl := Option.some.inj hc
        refine wp_region_quiet (C := Cls G) hcond.2 hcond.1.2 ⟨⟨G.w.drew, G.fr, G.be, G.nx⟩, ⟨fun b _ => ⟨rfl, rfl⟩, rfl, rfl, Nat.le_refl _, rfl, rfl, rfl⟩, rfl⟩ ?_
        exact wpq_sound (K := Q .nrm) (fun own s a G h hw => ⟨own, s, G, rfl, h, hw⟩) ops.toList l hl (fun x hx => List.all_eq_true.1 hcond.1.1.1 x hx) h hw
      · split at hc
        · rename_i hcond
          simp only [Bool.and_eq_true] at hcond
          obtain ⟨t, ht, rfl⟩ := Option.map_eq_some_iff.1 hc
          refine wp_region_any hcond.2 ?_
          have h' := h.keep (G' := ⟨G.w.drew, G.fr, G.be, G.nx⟩) ⟨fun b _ => ⟨rfl, rfl⟩, rfl, rfl, Nat.le_refl _, rfl, rfl, rfl⟩
          exact wan_sound (K := Q .nrm) (fun own s a G h hw => ⟨own, s, G, rfl, h, hw⟩) hl _ _ h' (mkM_sound q.P q.T q.n0 (by rw [compList_len hl]; simp) (fun y hy => List.all_eq_true.1 hcond.1 y hy) _ _ 0 t _ _ ⟨by simp, fun i hi => by simp [hi], fun i _ => by simp⟩ ht hw)
        · cases hc
    · cases hc
  | .seq x y, pc, Q, own, s, a, G, hc, h, hw => by
    simp only [compCode] at hc
    split at hc
    · rename_i px py hx hy
      obtain rfl := Option.some.inj hc
      refine wp_seq (wp_mono (wpc_sound x px _ hx h hw) fun e a' w' hr => ?_)
      obtain ⟨own', s', G', rfl, h', hq⟩ := hr
      cases e with
      | normal => exact wpc_sound y py Q hy h' hq
      | exit id => exact ⟨own', s', G', rfl, h', hq⟩
      | ret => exact ⟨own', s', G', rfl, h', hq⟩
      | _ => exact hq.elim
    · cases hc
  | .cond c x y, pc, Q, own, s, a, G, hc, h, hw => by
    simp only [compCode] at hc
    split at hc
    · rename_i px py hx hy
      split at hc
      · rename_i hok
        obtain rfl := Option.some.inj hc
        obtain ⟨b, hb, h1, h2⟩ := hw
        refine wp_cond_split (rd_bool (h.rd hok) hb).1 (fun e => wpc_sound x px Q hx h (h1 e)) (fun e => wpc_sound y py Q hy h (h2 e))
      · cases hc
    · cases hc
  | .block id c, pc, Q, own, s, a, G, hc, h, hw => by
    obtain ⟨p, hp, rfl⟩ := Option.map_eq_some_iff.1 (show (compCode q.P q.N bx c).map (PC.block id) = some pc from hc)
    refine wp_block (wp_mono (wpc_sound c p _ hp h hw) fun e a' w' hr => ?_)
    obtain ⟨own', s', G', rfl, h', hq⟩ := hr
    cases e with
    | normal => exact ⟨own', s', G', rfl, h', hq⟩
    | exit id' =>
      simp only [Exit.inBlock]
      simp only at hq
      split at hq
      · rename_i e; rw [if_pos e]; exact ⟨own', s', G', rfl, h', hq⟩
      · rename_i e; rw [if_neg e]; exact ⟨own', s', G', rfl, h', hq⟩
    | ret => exact ⟨own', s', G', rfl, h', hq⟩
    | _ => exact hq.elim
  | .loop c, pc, Q, own, s, a, G, hc, h, hw => by
    obtain ⟨p, hp, rfl⟩ := Option.map_eq_some_iff.1 (show (compCode q.P q.N bx c).map PC.loop = some pc from hc)
    obtain ⟨I, μ, h0, hround⟩ := hw
    have key : ∀ n own s a G, μ s = n → I s → Inv q own s a G → ∀ b k cs, ∃ e a' w', Real q Q e a' w' ∧ Arrives q.P (lone (b.at a (.code c :: .inLoop c :: k)) cs G.w) b k cs e a' w' := by
      intro n
      induction n using Nat.strongRecOn with
      | _ n ih =>
        intro own s a G hn hI h b k cs
        obtain ⟨e, a₁, w₁, hq, harr⟩ := wpc_sound c p _ hp h (hround s hI) b (.inLoop c :: k) cs
        obtain ⟨own₁, s₁, G₁, rfl, h₁, hq⟩ := hq
        cases e with
        | normal =>
          obtain ⟨H1, hsub, hI₁, hlt⟩ := hq
          obtain ⟨G₂, hw₂, h₂⟩ := h₁.forget hsub
          obtain ⟨e₂, a₂, w₂, hq₂, harr₂⟩ := ih _ (hn ▸ hlt) own₁ _ a₁ G₂ rfl hI₁ h₂ b k cs
          rw [hw₂] at harr₂
          exact ⟨e₂, a₂, w₂, hq₂, .of_steps (Steps.trans harr (.one step_inLoop)) harr₂⟩
        | exit id => exact ⟨_, a₁, _, ⟨own₁, s₁, G₁, rfl, h₁, hq⟩, .pass (x := .inLoop c) rfl (fun _ _ => .inl (by simp)) harr⟩
        | ret => exact ⟨_, a₁, _, ⟨own₁, s₁, G₁, rfl, h₁, hq⟩, .pass (x := .inLoop c) rfl (fun _ _ => .inl (by simp)) harr⟩
        | _ => exact hq.elim
    intro b k cs
    obtain ⟨e, a', w', hq, harr⟩ := key _ own s a G rfl h0 h b k cs
    exact ⟨e, a', w', hq, .of_steps (.one step_loop) harr⟩
  | .exit id, pc, Q, own, s, a, G, hc, h, hw => by
    obtain rfl : pc = .exit id := by simpa [compCode] using hc.symm
    exact wp_exit ⟨own, s, G, rfl, h, hw⟩
  | .ret, pc, Q, own, s, a, G, hc, h, hw => by
    obtain rfl : pc = .ret := by simpa [compCode] using hc.symm
    exact wp_ret ⟨own, s, G, rfl, h, hw⟩
  | .rangeFunc .., pc, Q, own, s, a, G, hc, h, hw => by simp [compCode] at hc
  | .scope .., pc, Q, own, s, a, G, hc, h, hw => by simp [compCode] at hc
  | .label .., pc, Q, own, s, a, G, hc, h, hw => by simp [compCode] at hc
  | .goto .., pc, Q, own, s, a, G, hc, h, hw => by simp [compCode] at hc
  | .refuse .., pc, Q, own, s, a, G, hc, h, hw => by simp [compCode] at hc

end
end Go.PE
namespace Go.PE
open Go

inductive RV where
  | t (r : Nat)
  | cA (r n : Nat)
  | c1 (r : Nat)
  deriving DecidableEq

def resV (s : PS) : RV → Option Value
  | .t r => some (s.t r)
  | .cA r n => match lead s.H (s.ev (.tmp r)) with
    | some (row, off) => if off + n ≤ row.length then some (ag (((row.drop off).take n).map dg1)) else none
    | none => none
  | .c1 r => match lead s.H (s.ev (.tmp r)) with
    | some (row, off) => (row[off]?).map dg1
    | none => none
def resL (s : PS) : List RV → Option (List Value)
  | [] => some []
  | r :: rs => match resV s r, resL s rs with
    | some p, some ps => some (p :: ps)
    | _, _ => none
def oneOr (ps : List Value) : Value := match ps with | [p] => p | ps => tup ps

section compile
variable (P : Program) (N : Nat)
def compRes : List ResultVar → Option (List RV)
  | [] => some []
  | .tmp t :: r => if t < N then (compRes r).map (.t t :: ·) else none
  | .cell a ty :: r => if a < N then (match isAggB P ty, sz P ty with
    | some true, some n => (compRes r).map (.cA a n :: ·)
    | some false, _ => (compRes r).map (.c1 a :: ·)
    | _, _ => none) else none
/-- a function: how many slots, its code, its results -/
def compFnX (bx : List Nat) (f : Nat) : Option (Nat × PC × List RV) :=
  match P.funcs[f]? with
  | some fn => match fn.body with
    | some c => match compCode P fn.ntmps bx c, compRes P fn.ntmps fn.results.toList with
      | some pc, some rvs => if decide rvs.Nodup then some (fn.ntmps, pc, rvs) else none
      | _, _ => none
    | none => none
  | none => none
/-- no slices in boxes -/
def compFn (f : Nat) : Option (Nat × PC × List RV) := compFnX P [] f
end compile

/-- the frame at a function's beginning -/
def start (args : List Value) : Nat → Value := fun t => dg (args.getD t undef)

/-- what is owed at a function's end -/
def fin (n0 : Nat) (rvs : List RV) (R : Post) : Ex → PS → Prop
  | .ext _, _ => False
  | _, s => ∃ ps, resL s rvs = some ps ∧ ∃ H1 ps', Sub n0 H1 s.H ∧ Cvs n0 s.H H1 ps ps' ∧ R (oneOr ps') H1 s.nx

section
variable {q : Par} {own : Nat → Option Pos} {s : PS} {a : Act} {G : Gh}

/-- a result, as the model reads it -/
def rvSem (a : Act) : ResultVar → Sem Value
  | .tmp t => pure (a.tmps.getD t undef)
  | .cell c t => do loadVar t (← Go.asAddr (a.tmps.getD c undef))

theorem resV_run (h : Inv q own s a G) {rv : ResultVar} {r : RV} {p : Value} (hc : compRes q.P q.N [rv] = some [r]) (hp : resV s r = some p) :
    ∃ v, (rvSem a rv).run q.P G.w = .ok v G.w ∧ Rd G v p ∧
      ((∃ t, r = .t t ∧ t < q.N ∧ v = a.tmps.getD t undef ∧ p = s.t t) ∨ noLin p) := by
  cases rv with
  | tmp t =>
    simp only [compRes] at hc
    split at hc
    · rename_i ht
      simp at hc
      subst hc
      simp only [resV, Option.some.injEq] at hp
      subst hp
      exact ⟨_, by simp [rvSem], h.tm t ht, .inl ⟨t, rfl, ht, rfl, rfl⟩⟩
    · cases hc
  | cell c ty =>
    simp only [compRes] at hc
    split at hc
    · rename_i ht
      have hok : okOpd q.P q.N (.tmp c) = true := by simpa [okOpd] using ht
      have hev : a.eval (.tmp c) = a.tmps.getD c undef := rfl
      split at hc
      · rename_i n ha hn
        simp at hc
        subst hc
        simp only [resV] at hp
        split at hp
        · rename_i row off hl
          split at hp
          · rename_i hle
            obtain rfl := Option.some.inj hp
            obtain ⟨v, p, hr, hnl, hk, hrun⟩ := still_ldA (C := PCalls q.P) (q := q) (o := { dst := none, op := .load ty (.tmp c), type := ty, pos := "", after := #[], guard := none }) rfl ha hn hok own s a G (fun _ => True) h ⟨row, off, hl, hle, trivial⟩
            -- once more, with the value at hand
            obtain ⟨ad, vs, hv, hlen, hcl, hrl⟩ := rd_lead h (h.rd hok) hl
            have hrun' : (loadCells ad n).run q.P G.w = .ok (vs.take n).toArray G.w := by
              have := run_loadCells_list (P := q.P) G.w ad (vs.take n) (fun j u hu => by
                rw [List.getElem?_take] at hu
                split at hu
                · exact (hcl j u hu).1
                · cases hu)
              rwa [List.length_take, hlen, Nat.min_eq_left (by omega)] at this
            refine ⟨ag (vs.take n), ?_, ?_, .inr (noLin_ag _)⟩
            · show Sem.run q.P (do loadVar ty (← Go.asAddr (a.tmps.getD c undef)) : Sem Value) G.w = _
              rw [← hev, hv]
              simp [Go.asAddr, loadVar, run_isAgg' ha, run_sizeOf' hn, hrun', ag]
            · refine .agg _ _ (by simp [hlen]) (fun u hu => ?_) (fun e xs hm => ?_) (fun j u y hu hy => ?_)
              · obtain ⟨j, hj⟩ := List.getElem?_of_mem hu
                rw [List.getElem?_take] at hj
                split at hj
                · exact (hcl j u hj).2
                · cases hj
              · obtain ⟨y, _, hy⟩ := List.mem_map.1 hm
                exact dg1_ne_lin y e xs hy
              · rw [List.getElem?_take] at hu
                split at hu
                · rename_i hj
                  simp only [List.getElem?_map, List.getElem?_take, hj, if_true, List.getElem?_drop, Option.map_eq_some_iff] at hy
                  obtain ⟨y', hy', rfl⟩ := hy
                  exact Rd_dg1 (hrl j u y' hu hy')
                · cases hu
          · cases hp
        · cases hp
      · rename_i ha
        simp at hc
        subst hc
        simp only [resV] at hp
        split at hp
        · rename_i row off hl
          obtain ⟨cc, hcc, rfl⟩ := Option.map_eq_some_iff.1 hp
          obtain ⟨ad, vs, hv, hlen, hcl, hrl⟩ := rd_lead h (h.rd hok) hl
          have hlt : off < row.length := (List.getElem?_eq_some_iff.1 hcc).1
          have hu : vs[0]? = some (vs[0]'(by omega)) := List.getElem?_eq_getElem _
          have hrd := hrl 0 _ cc hu (by simpa using hcc)
          obtain ⟨hcu, h1⟩ := hcl 0 _ hu
          have hcu' : G.w.cell? ad = some (vs[0]'(by omega)) := by simpa [Addr.add] using hcu
          refine ⟨vs[0]'(by omega), ?_, Rd_dg1 hrd, .inr (noLin_one (dg1_oneCell (oneCell_row hrd h1)) (dg1_ne_lin _))⟩
          show Sem.run q.P (do loadVar ty (← Go.asAddr (a.tmps.getD c undef)) : Sem Value) G.w = _
          rw [← hev, hv]
          simp [Go.asAddr, loadVar, run_isAgg' ha, hcu']
        · cases hp
      · cases hc
    · cases hc

theorem compRes_cons {P : Program} {N : Nat} {rv : ResultVar} {rs : List ResultVar} {rvs : List RV} (h : compRes P N (rv :: rs) = some rvs) : ∃ r l, compRes P N [rv] = some [r] ∧ compRes P N rs = some l ∧ rvs = r :: l := by
  cases rv with
  | tmp t =>
    simp only [compRes] at h ⊢
    split at h
    · obtain ⟨l, hl, rfl⟩ := Option.map_eq_some_iff.1 h
      exact ⟨.t t, l, by simp [*], hl, rfl⟩
    · cases h
  | cell c ty =>
    simp only [compRes] at h ⊢
    split at h
    · split at h
      · rename_i n _ _
        obtain ⟨l, hl, rfl⟩ := Option.map_eq_some_iff.1 h
        exact ⟨.cA c n, l, by simp [*], hl, rfl⟩
      · obtain ⟨l, hl, rfl⟩ := Option.map_eq_some_iff.1 h
        exact ⟨.c1 c, l, by simp [*], hl, rfl⟩
      · cases h
    · cases h

theorem resL_run (h : Inv q own s a G) : ∀ (rs : List ResultVar) (rvs : List RV) (ps : List Value), compRes q.P q.N rs = some rvs → resL s rvs = some ps →
    ∃ vs : List Value, (rs.mapM (rvSem a)).run q.P G.w = .ok vs G.w ∧ vs.length = ps.length ∧ rvs.length = ps.length ∧
      ∀ (i : Nat) v p r, vs[i]? = some v → ps[i]? = some p → rvs[i]? = some r → Rd G v p ∧ ((∃ t, r = .t t ∧ t < q.N ∧ v = a.tmps.getD t undef ∧ p = s.t t) ∨ noLin p)
  | [], rvs, ps, hc, hp => by
    obtain rfl : rvs = [] := by simpa [compRes] using hc.symm
    obtain rfl : ps = [] := by simpa [resL] using hp.symm
    exact ⟨[], by simp, rfl, rfl, fun i v p r hv => by simp at hv⟩
  | rv :: rs, rvs, ps, hc, hp => by
    obtain ⟨r, l, h1, h2, rfl⟩ := compRes_cons hc
    simp only [resL] at hp
    split at hp
    · rename_i p ps' hp1 hp2
      obtain rfl := Option.some.inj hp
      obtain ⟨v, e1, e2, e3⟩ := resV_run h h1 hp1
      obtain ⟨vs, f1, f2, f3, f4⟩ := resL_run h rs l ps' h2 hp2
      refine ⟨v :: vs, ?_, by simp [f2], by simp [f3], fun i v' p' r' hv hp hr => ?_⟩
      · simp only [List.mapM_cons, Sem.run_bind, Sem.run_pure]
        rw [e1]
        simp only [Result.andThen_ok]
        rw [f1]
        rfl
      · cases i with
        | zero =>
          simp at hv hp hr
          subst hv hp hr
          exact ⟨e2, e3⟩
        | succ i => exact f4 i v' p' r' (by simpa using hv) (by simpa using hp) (by simpa using hr)
    · cases hp

theorem Entry.inv {P : Program} {T : Nat → Prop} {H : Nat → Option (List Value)} {nx : Nat} (hE : Entry P T H nx own G) (N : Nat) (vs args : List Value) (hl : vs.length = args.length) (hN : vs.length ≤ N)
    (hr : ∀ (i : Nat) v p, vs[i]? = some v → args[i]? = some p → Rd G v p) :
    Inv ⟨P, G, T, nx, N, H⟩ own ⟨start args, H, nx⟩ { tmps := vs.toArray ++ Array.replicate (N - vs.length) undef, defers := [] } G where
  ob := hE.heap.ob
  bn := hE.heap.bn
  nxH := hE.heap.nxH
  nx := hE.heap.nx
  n0 := Nat.le_refl _
  inj := hE.heap.inj
  gl := hE.heap.gl
  ng := hE.heap.ng
  ol := hE.heap.ol
  bo := fun _ _ => rfl
  frame := fun _ _ _ => ⟨rfl, rfl⟩
  sz := Nat.le_refl _
  os := rfl
  tape := rfl
  output := rfl
  ctok := fun base k i e xs hob hp => by
    rcases hob with rfl | ⟨hT | hT, _⟩
    · exact hE.ctok k i e xs hp
    · exfalso
      have hp' : pcell H k i = lin e xs := hp
      cases hH : H k with
      | none => simp [pcell, hH, undef, lin] at hp'
      | some row =>
        have : row.getD i undef = lin e xs := by simpa [pcell, hH] using hp'
        exact hE.nolin k row hT hH i e xs this
    · exfalso
      have hp' : pcell H k i = lin e xs := hp
      have : H k = none := hE.heap.nxH k hT
      simp [pcell, this, undef, lin] at hp'
  hh := fun _ _ _ => rfl
  size := by simp; omega
  defers := rfl
  tm := fun t ht => by
    simp only [start]
    have hg : (vs.toArray ++ Array.replicate (N - vs.length) undef).getD t undef = vs.getD t undef := by
      rw [Array.getD_eq_getD_getElem?, List.getD_eq_getElem?_getD]
      by_cases hv : t < vs.length
      · rw [Array.getElem?_append_left (by simpa using hv)]; simp
      · rw [Array.getElem?_append_right (by simpa using hv)]
        rw [List.getElem?_eq_none (by omega)]
        simp only [Option.getD_none, List.size_toArray, Array.getElem?_replicate]
        split <;> rfl
    rw [hg]
    by_cases hv : t < vs.length
    · have h1 : vs[t]? = some vs[t] := List.getElem?_eq_getElem hv
      have h2 : args[t]? = some (args[t]'(by omega)) := List.getElem?_eq_getElem _
      rw [List.getD_eq_getElem?_getD, List.getD_eq_getElem?_getD, h1, h2]
      exact Rd_dg (hr t _ _ h1 h2)
    · rw [List.getD_eq_getElem?_getD, List.getD_eq_getElem?_getD, List.getElem?_eq_none (by omega), List.getElem?_eq_none (by omega)]
      exact Rd_undef
  ttok := fun t e xs _ hp => absurd hp ((noLin_dg _).1 e xs)
  utok := fun t i e xs _ hp => absurd hp ((noLin_dg _).2 i e xs)
  mps := fun b es hp => by
    have hp' : dg (args.getD (N + b) undef) = mpe es := hp
    rw [List.getD_eq_getElem?_getD, List.getElem?_eq_none (by omega)] at hp'
    simp [undef, mpe, dg, dg1] at hp'

/-- the labels at a function's end -/
def outlab (rvs : List RV) : Option Pos → Option Pos
  | some (.cell k i) => some (.cell k i)
  | some (.tmp u) => if rvs = [.t u] then some (.tmp 0) else (rvs.idxOf? (.t u)).map (.tup 0 ·)
  | some (.tup u i) => if rvs = [.t u] then some (.tup 0 i) else none
  | none => none

theorem idxOf_nodup {α : Type} [BEq α] [LawfulBEq α] : ∀ (l : List α), l.Nodup → ∀ (i : Nat) x, l[i]? = some x → l.idxOf? x = some i
  | [], _, i, x, h => by simp at h
  | y :: l, hn, 0, x, h => by simp at h; subst h; simp [List.idxOf?_cons]
  | y :: l, hn, i + 1, x, h => by
    have hx : l[i]? = some x := by simpa using h
    have hne : y ≠ x := fun e => by subst e; exact (List.nodup_cons.1 hn).1 (List.mem_of_getElem? hx)
    rw [List.idxOf?_cons, idxOf_nodup l (List.nodup_cons.1 hn).2 i x hx]
    simp [hne]

/-- FROM A FUNCTION's PURE CODE TO WHAT A CALLER KNOWS OF IT -/
theorem PCalls_ofX {P : Program} {bx : List Nat} {f N : Nat} {pc : PC} {rvs : List RV} {args : List Value} {H : Nat → Option (List Value)} {nx : Nat} {T : Nat → Prop} {R : Post} (hf : compFnX P bx f = some (N, pc, rvs)) (hN : args.length ≤ N)
    (hw : (∀ k, nx ≤ k → H k = none) → wpc (PCalls P) P T nx pc (fin nx rvs R) ⟨start args, H, nx⟩) : PCalls P f args H nx T R := by
  intro G own vs hE hl hr
  unfold compFnX at hf
  split at hf
  · rename_i fn hfn
    split at hf
    · rename_i c hb
      split at hf
      · rename_i pc' rvs' hc hcr
        split at hf
        · rename_i hnd
          simp only [Option.some.injEq, Prod.mk.injEq] at hf
          obtain ⟨rfl, rfl, rfl⟩ := hf
          have hnd' : rvs'.Nodup := of_decide_eq_true hnd
          have hinv := hE.inv fn.ntmps vs args hl (by omega) hr
          refine calls_of_wp hfn hb ?_
          have hwp := wpc_sound (q := ⟨P, G, T, nx, fn.ntmps, H⟩) c pc' (fin nx rvs' R) hc hinv (hw hE.heap.nxH)
          rw [show vs.toArray.size = vs.length by simp]
          refine wp_mono hwp fun e a' w' hreal => ?_
          obtain ⟨own', s', G', rfl, h', hq⟩ := hreal
          have main : fin nx rvs' R .rt s' → a'.defers = [] ∧ ∃ v, (results fn a'.tmps).run P G'.w = .ok v G'.w ∧
              (∃ v' p G'' own'' H' nx', G''.w = G'.w ∧ Ending.returned v = .returned v' ∧ Left ⟨P, G, T, nx, 0, H⟩ own'' H' nx' G'' v' p ∧ R p H' nx') := by
            rintro ⟨ps0, hps, H1, ps, hsub, hcvs, hR⟩
            obtain ⟨rvals, hrun, hlen0, hlen0', hrd0⟩ := resL_run h' fn.results.toList rvs' ps0 hcr hps
            obtain ⟨hb2, hext2, htok2⟩ := h'.toBase.freeze hsub
            have hw2 : (frz G' H1).w = G'.w := rfl
            have hlen : rvals.length = ps.length := by rw [hlen0]; exact hcvs.1
            have hlen' : rvs'.length = ps.length := by rw [hlen0']; exact hcvs.1
            have hrd : ∀ (i : Nat) v p r, rvals[i]? = some v → ps[i]? = some p → rvs'[i]? = some r → Rd (frz G' H1) v p ∧ ((∃ t, r = .t t ∧ t < fn.ntmps ∧ v = a'.tmps.getD t undef ∧ p = s'.t t) ∨ noLin p) := by
              intro i v p r hv hp hr
              have hi : i < ps0.length := by rw [← hlen0]; exact (List.getElem?_eq_some_iff.1 hv).1
              have hp0 : ps0[i]? = some ps0[i] := List.getElem?_eq_getElem hi
              obtain ⟨h1, h2⟩ := hrd0 i v _ r hv hp0 hr
              have hc := hcvs.2 i _ p hp0 hp
              refine ⟨Cv_rd h'.toBase hsub h1 hc, ?_⟩
              rcases hc with (hc | ⟨k, off, n, cap, size, row, xs, _, hc, _⟩) | ⟨l, l', _, hc, _⟩
              · rw [hc]; exact h2
              · rw [hc]; exact .inr (noLin_deep _)
              · rw [hc]; exact .inr (noLin_ag _)
            let G'' : Gh := frz G' H1
            have hrunA : (fn.results.mapM (rvSem a')).run P G'.w = .ok rvals.toArray G'.w := by
              rw [Array.mapM_eq_mapM_toList]
              show Sem.run P (Bind.bind (fn.results.toList.mapM (rvSem a')) (Pure.pure ∘ List.toArray)) G'.w = _
              rw [Sem.run_bind, hrun]
              rfl
            -- the labels
            let own'' : Nat → Option Pos := fun g => outlab rvs' (own' g)
            have htokc : ∀ {base : Nat} {k i : Nat} {e : Nat} {v : Value}, TokOK P G'' own' base (.cell k i) e v → TokOK P G'' own'' base (.cell k i) e v := by
              intro base k i e v ht
              exact ht.own_of fun g _ _ _ ho => by simp [own'', ho, outlab]
            have hbase : Base ⟨P, G, T, nx, 0, H⟩ own'' ⟨fun _ => undef, H1, s'.nx⟩ G'' :=
              ⟨⟨hb2.ob, hb2.bn, hb2.nxH, hb2.nx, hb2.n0, hb2.inj, hb2.gl, hb2.ng, fun g pos hg => by
                  have hg' : outlab rvs' (own' g) = some pos := hg
                  cases ho : own' g with
                  | none => rw [ho] at hg'; simp [outlab] at hg'
                  | some p => exact hb2.ol g p ho⟩,
                hb2.bo, hb2.frame, hb2.sz, hb2.os, hb2.tape, hb2.output, fun base k i e xs hob hp => htokc (hb2.ctok base k i e xs hob hp), hb2.hh⟩
            refine ⟨h'.defers, if h : rvals.toArray.size = 1 then rvals.toArray[0] else .tuple rvals.toArray, ?_, ?_⟩
            · show Sem.run P (Bind.bind (fn.results.mapM (rvSem a')) fun vs => Pure.pure (if h : vs.size = 1 then vs[0] else .tuple vs)) G'.w = _
              rw [Sem.run_bind, hrunA]
              rfl
            · refine ⟨_, oneOr ps, G'', own'', H1, s'.nx, hw2, rfl, ⟨hbase, ?_, ?_, ?_⟩, hR⟩
              all_goals by_cases h1 : rvals.length = 1
              · obtain ⟨v, rfl⟩ := List.length_eq_one_iff.1 h1
                obtain ⟨p, rfl⟩ := List.length_eq_one_iff.1 (by rw [← hlen]; exact h1 : ps.length = 1)
                obtain ⟨r, rfl⟩ := List.length_eq_one_iff.1 (by rw [hlen', ← hlen]; exact h1 : rvs'.length = 1)
                exact (hrd 0 v p r rfl rfl rfl).1
              · rw [dif_neg (by simpa using h1)]
                have : oneOr ps = tup ps := by
                  unfold oneOr
                  split
                  · rename_i p; simp at hlen; omega
                  · rfl
                rw [this]
                refine .tuple rvals ps hlen (fun i v p hv hp => ?_)
                have hi : i < rvs'.length := by rw [hlen']; exact (List.getElem?_eq_some_iff.1 hp).1
                exact (hrd i v p _ hv hp (List.getElem?_eq_getElem hi)).1
              · obtain ⟨v, rfl⟩ := List.length_eq_one_iff.1 h1
                obtain ⟨p, rfl⟩ := List.length_eq_one_iff.1 (by rw [← hlen]; exact h1 : ps.length = 1)
                obtain ⟨r, rfl⟩ := List.length_eq_one_iff.1 (by rw [hlen', ← hlen]; exact h1 : rvs'.length = 1)
                intro e xs hp
                rcases (hrd 0 v p r rfl rfl rfl).2 with ⟨t, rfl, ht, hv, hpt⟩ | hnl
                · have := h'.ttok t e xs ht (by rw [← hpt]; exact hp)
                  rw [← hv] at this
                  exact (htok2 this).own_of fun g _ _ _ ho => by simp [own'', ho, outlab]
                · exact absurd hp (hnl.1 e xs)
              · intro e xs hp
                have : oneOr ps = tup ps := by
                  unfold oneOr
                  split
                  · rename_i p; simp at hlen; omega
                  · rfl
                rw [this] at hp; simp [tup, lin] at hp
              · obtain ⟨v, rfl⟩ := List.length_eq_one_iff.1 h1
                obtain ⟨p, rfl⟩ := List.length_eq_one_iff.1 (by rw [← hlen]; exact h1 : ps.length = 1)
                obtain ⟨r, rfl⟩ := List.length_eq_one_iff.1 (by rw [hlen', ← hlen]; exact h1 : rvs'.length = 1)
                intro i e xs hp
                rcases (hrd 0 v p r rfl rfl rfl).2 with ⟨t, rfl, ht, hv, hpt⟩ | hnl
                · have := h'.utok t i e xs ht (by rw [← hpt]; exact hp)
                  rw [← hv] at this
                  exact (htok2 this).own_of fun g _ _ _ ho => by simp [own'', ho, outlab]
                · exact absurd hp (hnl.2 i e xs)
              · intro i e xs hp
                have ht : oneOr ps = tup ps := by
                  unfold oneOr
                  split
                  · rename_i p; simp at hlen; omega
                  · rfl
                rw [ht, comp_tup] at hp
                have hpi := getD_some hp (lin_ne_undef _ _)
                have hi : i < ps.length := (List.getElem?_eq_some_iff.1 hpi).1
                have hvi : rvals[i]? = some (rvals[i]'(by omega)) := List.getElem?_eq_getElem _
                have hri : rvs'[i]? = some (rvs'[i]'(by omega)) := List.getElem?_eq_getElem _
                rw [dif_neg (by simpa using h1)]
                have hcv : comp (.tuple rvals.toArray) i = rvals[i]'(by omega) := by simp [comp, List.getD_eq_getElem?_getD, hvi]
                rw [hcv]
                rcases (hrd i _ _ _ hvi hpi hri).2 with ⟨t, hrt, ht', hv, hpt⟩ | hnl
                · have := h'.ttok t e xs ht' hpt.symm
                  rw [← hv] at this
                  refine (htok2 this).own_of fun g _ _ _ ho => ?_
                  have hidx := idxOf_nodup rvs' hnd' i _ hri
                  rw [hrt] at hidx
                  have hne : rvs' ≠ [.t t] := fun e => by rw [e] at hlen'; simp at hlen'; omega
                  simp [own'', ho, outlab, hne, hidx]
                · exact absurd rfl (hnl.1 e xs)
          cases e with
          | normal => exact main hq
          | ret => exact main hq
          | exit id => exact hq.elim
          | _ => exact hq.elim
        · cases hf
      · cases hf
    · cases hf
  · cases hf

theorem PCalls_of {P : Program} {f N : Nat} {pc : PC} {rvs : List RV} {args : List Value} {H : Nat → Option (List Value)} {nx : Nat} {T : Nat → Prop} {R : Post} (hf : compFn P f = some (N, pc, rvs)) (hN : args.length ≤ N)
    (hw : (∀ k, nx ≤ k → H k = none) → wpc (PCalls P) P T nx pc (fin nx rvs R) ⟨start args, H, nx⟩) : PCalls P f args H nx T R := PCalls_ofX (bx := []) hf hN hw
end
end Go.PE
namespace Go.PE
open Go
attribute [simp] intV strV wO_some wO_none wB_true wB_false upd_apply putO_some putO_none put_mk ev_tmp ev_int ev_bool ev_string ev_nil ev_global cellsOf_int cellsOf_bool cellsOf_string cellsOf_deep cellsOf_lin cellsOf_ag cellsOf_ptr lc_int lc_bool lc_string lc_deep lc_ag asDeep_deep asAg_ag asInt_int asBool_bool asStr_string addOff_ptr addOff_dptr lead_ptr lead_dptr binV_int binV_shl binV_shr binV_str unV_not mmV_int step_mv step_steal step_cnil step_pick step_alloc wBox_some step_box step_build buildL_nil buildL_inl buildL_inr okParts_nil okParts_cons step_mks step_ldA step_ld step_nilc step_bi step_un step_mm step_bb step_cv step_slen step_b2s step_six step_eqA step_fa step_fldA step_fld step_ixS step_ixP step_ixA step_ix step_len wX_tup step_extr step_slS bnd_none bnd_some' step_st step_call step_app
section
variable (C : Known) (P : Program) (T : Nat → Prop) (n0 : Nat) (d : Option Nat) (s : PS) (K : PS → Prop)

@[simp] theorem step_mkf (f : FuncId) (a b : List Operand) : PE.step C P T n0 d (.mkf f a b) s K = K (s.putO d (clo f (a.map s.ev) (b.map s.ev))) := _root_.id rfl
/-- a call of a function value -/
def wCallv (C : Known) (P : Program) (T : Nat → Prop) (n0 : Nat) (v : Value) (args : List Value) (d : Option Nat) (s : PS) (K : PS → Prop) : Prop :=
  ∃ f first caps, v = clo f first caps ∧ okFn P f = true ∧ wCall C T n0 f (first ++ args ++ caps) d s K
@[simp] theorem step_callv (x : Operand) (args : List Operand) : PE.step C P T n0 d (.callv x args) s K = wCallv C P T n0 (s.ev x) (args.map s.ev) d s K := _root_.id rfl
theorem clo_inj {f f' : FuncId} {l l' m m' : List Value} (h : clo f l m = clo f' l' m') : f = f' ∧ l = l' ∧ m = m' := by simpa [clo] using h
@[simp] theorem wCallv_clo (f : FuncId) (first caps args : List Value) : wCallv C P T n0 (clo f first caps) args d s K = (okFn P f = true ∧ wCall C T n0 f (first ++ args ++ caps) d s K) := by
  apply propext
  constructor
  · rintro ⟨f', l', m', h1, h2, h3⟩; obtain ⟨rfl, rfl, rfl⟩ := clo_inj h1; exact ⟨h2, h3⟩
  · rintro ⟨h2, h3⟩; exact ⟨f, first, caps, rfl, h2, h3⟩

/-! lists of instructions -/
@[simp] theorem gB_bool (c b : Bool) : gB (.bool c) b = some (c == b) := _root_.id rfl
@[simp] theorem gB_undef (b : Bool) : gB undef b = some false := _root_.id rfl
@[simp] theorem dg_undef : dg undef = undef := _root_.id rfl
@[simp] theorem wpr_nil : wpr C P T n0 [] K s = K s := _root_.id rfl
@[simp] theorem wpr_cons (i : PI) (r : List PO) : wpr C P T n0 ((d, none, i) :: r) K s = PE.step C P T n0 d i s (wpr C P T n0 r K) := _root_.id rfl
@[simp] theorem wpr_guard (t : Nat) (b : Bool) (i : PI) (r : List PO) : wpr C P T n0 ((d, some (t, b), i) :: r) K s =
    wB (gB (s.ev (.tmp t)) b) (PE.step C P T n0 d i s (wpr C P T n0 r K)) (wpr C P T n0 r K (s.putO d undef)) := by
  rfl
@[simp] theorem wpq_nil : wpq C P T n0 [] K s = K s := _root_.id rfl
@[simp] theorem wpq_cons (i : PI) (r : List PO) : wpq C P T n0 ((d, none, i) :: r) K s = qstep C P T n0 d i s (wpq C P T n0 r K) := _root_.id rfl
@[simp] theorem wpq_guard (t : Nat) (b : Bool) (i : PI) (r : List PO) : wpq C P T n0 ((d, some (t, b), i) :: r) K s =
    wB (gB (s.ev (.tmp t)) b) (qstep C P T n0 d i s (wpq C P T n0 r K)) (wpq C P T n0 r K (s.putO d undef)) := by
  rfl
/-- a call that hands back one plain value -/
def wqCall (C : Known) (f : Nat) (args : List Value) (d : Option Nat) (s : PS) (K : PS → Prop) : Prop := ∃ v, plain v = true ∧ C f args s.H s.nx (fun _ => False) (fun p _ _ => p = v) ∧ K (s.putO d v)
@[simp] theorem qstep_call (f : Nat) (args : List Operand) : qstep C P T n0 d (.call f args) s K = wqCall C f (args.map s.ev) d s K := _root_.id rfl

/-! code -/
def kSeq (C : Known) (P : Program) (T : Nat → Prop) (n0 : Nat) (b : PC) (Q : Ex → PS → Prop) : Ex → PS → Prop := fun e s' => match e with | .nrm => wpc C P T n0 b Q s' | e => Q e s'
def kBlock (id : Nat) (Q : Ex → PS → Prop) : Ex → PS → Prop := fun e s' => match e with | .ext id' => if id' = id then Q .nrm s' else Q (.ext id') s' | e => Q e s'
variable (Q : Ex → PS → Prop)
@[simp] theorem kSeq_nrm (b : PC) : kSeq C P T n0 b Q .nrm s = wpc C P T n0 b Q s := _root_.id rfl
@[simp] theorem kSeq_ext (b : PC) (id : Nat) : kSeq C P T n0 b Q (.ext id) s = Q (.ext id) s := _root_.id rfl
@[simp] theorem kSeq_rt (b : PC) : kSeq C P T n0 b Q .rt s = Q .rt s := _root_.id rfl
@[simp] theorem kBlock_nrm (id : Nat) : kBlock id Q .nrm s = Q .nrm s := _root_.id rfl
@[simp] theorem kBlock_ext (id id' : Nat) : kBlock id Q (.ext id') s = if id' = id then Q .nrm s else Q (.ext id') s := _root_.id rfl
@[simp] theorem kBlock_rt (id : Nat) : kBlock id Q .rt s = Q .rt s := _root_.id rfl
@[simp] theorem wpc_skip : wpc C P T n0 .skip Q s = Q .nrm s := _root_.id rfl
@[simp] theorem wpc_reg (l : List PO) : wpc C P T n0 (.reg l) Q s = wpr C P T n0 l (Q .nrm) s := _root_.id rfl
@[simp] theorem wpc_ord (t : PT) : wpc C P T n0 (.ord t) Q s = wpt P T n0 t (Q .nrm) s := _root_.id rfl
@[simp] theorem wpt_done : wpt P T n0 .done K s = K s := _root_.id rfl
@[simp] theorem wpt_alt (a b : PT) : wpt P T n0 (.alt a b) K s = (wpt P T n0 a K s ∧ wpt P T n0 b K s) := _root_.id rfl
@[simp] theorem wpt_one (i : PI) (r : PT) : wpt P T n0 (.one (d, none, i) r) K s = PE.step (PCalls P) P T n0 d i s (wpt P T n0 r K) := _root_.id rfl
@[simp] theorem wpt_guard (t : Nat) (b : Bool) (i : PI) (r : PT) : wpt P T n0 (.one (d, some (t, b), i) r) K s =
    wB (gB (s.ev (.tmp t)) b) (PE.step (PCalls P) P T n0 d i s (wpt P T n0 r K)) (wpt P T n0 r K (s.putO d undef)) := by
  rfl
@[simp] theorem wpc_drw (l : List PO) : wpc C P T n0 (.drw l) Q s = wpq C P T n0 l (Q .nrm) s := _root_.id rfl
@[simp] theorem wpc_seq (a b : PC) : wpc C P T n0 (.seq a b) Q s = wpc C P T n0 a (kSeq C P T n0 b Q) s := _root_.id rfl
@[simp] theorem wpc_cond (c : Operand) (a b : PC) : wpc C P T n0 (.cond c a b) Q s = wB (PE.asBool (s.ev c)) (wpc C P T n0 a Q s) (wpc C P T n0 b Q s) := _root_.id rfl
@[simp] theorem wpc_block (id : Nat) (c : PC) : wpc C P T n0 (.block id c) Q s = wpc C P T n0 c (kBlock id Q) s := _root_.id rfl
@[simp] theorem wpc_exit (id : Nat) : wpc C P T n0 (.exit id) Q s = Q (.ext id) s := _root_.id rfl
@[simp] theorem wpc_ret : wpc C P T n0 .ret Q s = Q .rt s := _root_.id rfl

/-- at a round's end -/
def kLoop (n0 : Nat) (I : PS → Prop) (μ : PS → Nat) (m : Nat) (Q : Ex → PS → Prop) : Ex → PS → Prop := fun e s'' => match e with
  | .nrm => ∃ H1, Sub n0 H1 s''.H ∧ I ⟨s''.t, H1, s''.nx⟩ ∧ μ ⟨s''.t, H1, s''.nx⟩ < m
  | e => Q e s''
@[simp] theorem kLoop_ext (I : PS → Prop) (μ : PS → Nat) (m id : Nat) : kLoop n0 I μ m Q (.ext id) s = Q (.ext id) s := _root_.id rfl
@[simp] theorem kLoop_rt (I : PS → Prop) (μ : PS → Nat) (m : Nat) : kLoop n0 I μ m Q .rt s = Q .rt s := _root_.id rfl
theorem wpc_loop (I : PS → Prop) (μ : PS → Nat) (c : PC) (h0 : I s) (h : ∀ s', I s' → wpc C P T n0 c (kLoop n0 I μ (μ s') Q) s') : wpc C P T n0 (.loop c) Q s := ⟨I, μ, h0, fun s' hI => h s' hI⟩
theorem kLoop_nrm {I : PS → Prop} {μ : PS → Nat} {m : Nat} (H1 : Nat → Option (List Value)) (hs : Sub n0 H1 s.H) (hI : I ⟨s.t, H1, s.nx⟩) (hm : μ ⟨s.t, H1, s.nx⟩ < m) : kLoop n0 I μ m Q .nrm s := ⟨H1, hs, hI, hm⟩

@[simp] theorem start_apply (args : List Value) (t : Nat) : PE.start args t = dg (args.getD t undef) := _root_.id rfl
@[simp] theorem Sub_refl (H : Nat → Option (List Value)) : Sub n0 H H := fun _ => .inl rfl
end
end Go.PE
namespace Go.PE
open Go

theorem PCalls.mono {P : Program} {f nx : Nat} {args : List Value} {H : Nat → Option (List Value)} {T : Nat → Prop} {R R' : Post}
    (h : PCalls P f args H nx T R) (hR : ∀ p H' nx', R p H' nx' → R' p H' nx') : PCalls P f args H nx T R' := by
  intro G own vs h1 h2 h3
  refine (h G own vs h1 h2 h3).mono ?_
  rintro e w' ⟨v, p, G', own', H', nx', a1, a2, a3, a4⟩
  exact ⟨v, p, G', own', H', nx', a1, a2, a3, hR _ _ _ a4⟩

section
variable {P : Program} {T : Nat → Prop} {n0 f : Nat} {args : List Value} {d : Option Nat} {s : PS} {K : PS → Prop}
/-- a call of a function that writes no box of the caller's -/
theorem wCall_of {R : Post} (h : PCalls P f args s.H s.nx (fun _ => False) R) (hK : ∀ p H' nx', R p H' nx' → K ⟨(s.putO d p).t, H', nx'⟩) : wCall (PCalls P) T n0 f args d s K :=
  ⟨fun _ => False, fun _ h => h.elim, fun _ _ h => h.elim, h.mono hK⟩
/-- a call of a function that writes some -/
theorem wCall_ofT {R : Post} {T' : Nat → Prop} (h : PCalls P f args s.H s.nx T' R) (h1 : ∀ k, T' k → n0 ≤ k ∨ T k) (h2 : ∀ k row, T' k → s.H k = some row → rowNoLin row)
    (hK : ∀ p H' nx', R p H' nx' → K ⟨(s.putO d p).t, H', nx'⟩) : wCall (PCalls P) T n0 f args d s K := ⟨T', h1, h2, h.mono hK⟩
theorem wqCall_of {R : Post} {v : Value} (h : PCalls P f args s.H s.nx (fun _ => False) R) (hv : plain v = true) (hR : ∀ p H' nx', R p H' nx' → p = v) (hK : K (s.putO d v)) : wqCall (PCalls P) f args d s K :=
  ⟨v, hv, h.mono hR, hK⟩
end
/-! stores and appends, as simp takes them -/
def wSt2 (T : Nat → Prop) (n0 k off : Nat) (r o : Option (List Value)) (n : Nat) (d : Option Nat) (s : PS) (K : PS → Prop) : Prop :=
  ∃ row l, r = some row ∧ o = some l ∧ l.length = n ∧ off + n ≤ row.length ∧ (T k ∨ n0 ≤ k) ∧ K (PS.putO ⟨s.t, upd s.H k (some (row.take off ++ l ++ row.drop (off + n))), s.nx⟩ d undef)
@[simp] theorem wSt_ptr (T : Nat → Prop) (n0 k off : Nat) (o : Option (List Value)) (n : Nat) (d : Option Nat) (s : PS) (K : PS → Prop) : wSt T n0 (ptr k off) o n d s K = wSt2 T n0 k off (s.H k) o n d s K := by
  apply propext
  constructor
  · rintro ⟨k', off', row, l, e1, e2, e3, e4, e5, e6, e7⟩
    obtain ⟨rfl, rfl⟩ := ptr_inj e1
    exact ⟨row, l, e2, e3, e4, e5, e6, e7⟩
  · rintro ⟨row, l, e2, e3, e4, e5, e6, e7⟩; exact ⟨k, off, row, l, rfl, e2, e3, e4, e5, e6, e7⟩
@[simp] theorem wSt2_some (T : Nat → Prop) (n0 k off : Nat) (row l : List Value) (n : Nat) (d : Option Nat) (s : PS) (K : PS → Prop) : wSt2 T n0 k off (some row) (some l) n d s K =
    (l.length = n ∧ off + n ≤ row.length ∧ (T k ∨ n0 ≤ k) ∧ K (PS.putO ⟨s.t, upd s.H k (some (row.take off ++ l ++ row.drop (off + n))), s.nx⟩ d undef)) := by
  apply propext
  constructor
  · rintro ⟨row', l', e1, e2, e3⟩; cases e1; cases e2; exact e3
  · intro h; exact ⟨row, l, rfl, rfl, h⟩
@[simp] theorem wApp_lin (xs ys : List Value) (e size bytes t : Nat) (d : Option Nat) (s : PS) (K : PS → Prop) : wApp (lin e xs) (some ys) e size bytes t d s K =
    ((∀ y ∈ xs, (lc y).length = size) ∧ (∀ y ∈ ys, (lc y).length = size) ∧ xs.length + ys.length ≤ maxLen ∧ (xs.length + ys.length) * bytes ≤ 140737488355328 ∧ K ((s.put t (deep xs)).putO d (lin e (xs ++ ys)))) := by
  apply propext
  constructor
  · rintro ⟨xs', ys', e1, e2, e3⟩
    obtain ⟨_, rfl⟩ := lin_inj (e1.resolve_right fun h => by simp [lin, ns] at h)
    obtain rfl := Option.some.inj e2
    exact e3
  · intro h; exact ⟨xs, ys, .inl rfl, rfl, h⟩
@[simp] theorem wApp_ns (ys : List Value) (e size bytes t : Nat) (d : Option Nat) (s : PS) (K : PS → Prop) : wApp (ns []) (some ys) e size bytes t d s K =
    ((∀ y ∈ ys, (lc y).length = size) ∧ ys.length ≤ maxLen ∧ ys.length * bytes ≤ 140737488355328 ∧ K ((s.put t (deep [])).putO d (lin e ys))) := by
  apply propext
  constructor
  · rintro ⟨xs', ys', e1, e2, e3, e4, e5, e6, e7⟩
    obtain ⟨rfl, _⟩ := e1.resolve_left fun h => by simp [lin, ns] at h
    obtain rfl := Option.some.inj e2
    exact ⟨e4, by simpa using e5, by simpa using e6, by simpa using e7⟩
  · rintro ⟨h1, h2, h3, h4⟩; exact ⟨[], ys, .inr ⟨rfl, rfl⟩, rfl, by simp, h1, by simpa using h2, by simpa using h3, by simpa using h4⟩
@[simp] theorem qstep_mv (C : Known) (P : Program) (T : Nat → Prop) (n0 : Nat) (d : Option Nat) (s : PS) (K : PS → Prop) (x : Operand) : qstep C P T n0 d (.mv x) s K = PE.step C P T n0 d (.mv x) s K := _root_.id rfl
@[simp] theorem qstep_pick (C : Known) (P : Program) (T : Nat → Prop) (n0 : Nat) (d : Option Nat) (s : PS) (K : PS → Prop) (c a b : Operand) : qstep C P T n0 d (.pick c a b) s K = PE.step C P T n0 d (.pick c a b) s K := _root_.id rfl
@[simp] theorem qstep_build (C : Known) (P : Program) (T : Nat → Prop) (n0 : Nat) (d : Option Nat) (s : PS) (K : PS → Prop) (ps : List (List Value ⊕ (Operand × Nat))) : qstep C P T n0 d (.build ps) s K = PE.step C P T n0 d (.build ps) s K := _root_.id rfl
@[simp] theorem qstep_ldA (C : Known) (P : Program) (T : Nat → Prop) (n0 : Nat) (d : Option Nat) (s : PS) (K : PS → Prop) (n : Nat) (x : Operand) : qstep C P T n0 d (.ldA n x) s K = PE.step C P T n0 d (.ldA n x) s K := _root_.id rfl
@[simp] theorem qstep_ld (C : Known) (P : Program) (T : Nat → Prop) (n0 : Nat) (d : Option Nat) (s : PS) (K : PS → Prop) (b : Bool) (x : Operand) : qstep C P T n0 d (.ld b x) s K = PE.step C P T n0 d (.ld b x) s K := _root_.id rfl
@[simp] theorem qstep_nilc (C : Known) (P : Program) (T : Nat → Prop) (n0 : Nat) (d : Option Nat) (s : PS) (K : PS → Prop) (x : Operand) : qstep C P T n0 d (.nilc x) s K = PE.step C P T n0 d (.nilc x) s K := _root_.id rfl
@[simp] theorem qstep_bi (C : Known) (P : Program) (T : Nat → Prop) (n0 : Nat) (d : Option Nat) (s : PS) (K : PS → Prop) (op : BinOp) (x y : Operand) : qstep C P T n0 d (.bi op x y) s K = PE.step C P T n0 d (.bi op x y) s K := _root_.id rfl
@[simp] theorem qstep_bb (C : Known) (P : Program) (T : Nat → Prop) (n0 : Nat) (d : Option Nat) (s : PS) (K : PS → Prop) (g : Bool) (x y : Operand) : qstep C P T n0 d (.bb g x y) s K = PE.step C P T n0 d (.bb g x y) s K := _root_.id rfl
@[simp] theorem qstep_un (C : Known) (P : Program) (T : Nat → Prop) (n0 : Nat) (d : Option Nat) (s : PS) (K : PS → Prop) (op : UnOp) (x : Operand) : qstep C P T n0 d (.un op x) s K = PE.step C P T n0 d (.un op x) s K := _root_.id rfl
@[simp] theorem qstep_cv (C : Known) (P : Program) (T : Nat → Prop) (n0 : Nat) (d : Option Nat) (s : PS) (K : PS → Prop) (k : IntKind) (x : Operand) : qstep C P T n0 d (.cv k x) s K = PE.step C P T n0 d (.cv k x) s K := _root_.id rfl
@[simp] theorem qstep_mm (C : Known) (P : Program) (T : Nat → Prop) (n0 : Nat) (d : Option Nat) (s : PS) (K : PS → Prop) (b : Bool) (x y : Operand) : qstep C P T n0 d (.mm b x y) s K = PE.step C P T n0 d (.mm b x y) s K := _root_.id rfl
@[simp] theorem qstep_b2s (C : Known) (P : Program) (T : Nat → Prop) (n0 : Nat) (d : Option Nat) (s : PS) (K : PS → Prop) (x : Operand) : qstep C P T n0 d (.b2s x) s K = PE.step C P T n0 d (.b2s x) s K := _root_.id rfl
@[simp] theorem u8s_nil : u8s [] = some [] := _root_.id rfl
@[simp] theorem u8s_cons (n : Int) (r : List Value) : u8s (.int .u8 n :: r) = (u8s r).map (n :: ·) := _root_.id rfl
@[simp] theorem qstep_slen (C : Known) (P : Program) (T : Nat → Prop) (n0 : Nat) (d : Option Nat) (s : PS) (K : PS → Prop) (x : Operand) : qstep C P T n0 d (.slen x) s K = PE.step C P T n0 d (.slen x) s K := _root_.id rfl
@[simp] theorem qstep_six (C : Known) (P : Program) (T : Nat → Prop) (n0 : Nat) (d : Option Nat) (s : PS) (K : PS → Prop) (x i : Operand) : qstep C P T n0 d (.six x i) s K = PE.step C P T n0 d (.six x i) s K := _root_.id rfl
@[simp] theorem qstep_ssl (C : Known) (P : Program) (T : Nat → Prop) (n0 : Nat) (d : Option Nat) (s : PS) (K : PS → Prop) (x : Operand) (lo hi : Option Operand) : qstep C P T n0 d (.ssl x lo hi) s K = PE.step C P T n0 d (.ssl x lo hi) s K := _root_.id rfl
@[simp] theorem qstep_eqA (C : Known) (P : Program) (T : Nat → Prop) (n0 : Nat) (d : Option Nat) (s : PS) (K : PS → Prop) (g : Bool) (ks : List CK) (x y : Operand) : qstep C P T n0 d (.eqA g ks x y) s K = PE.step C P T n0 d (.eqA g ks x y) s K := _root_.id rfl
@[simp] theorem qstep_fa (C : Known) (P : Program) (T : Nat → Prop) (n0 : Nat) (d : Option Nat) (s : PS) (K : PS → Prop) (o : Nat) (x : Operand) : qstep C P T n0 d (.fa o x) s K = PE.step C P T n0 d (.fa o x) s K := _root_.id rfl
@[simp] theorem qstep_fldA (C : Known) (P : Program) (T : Nat → Prop) (n0 : Nat) (d : Option Nat) (s : PS) (K : PS → Prop) (o n : Nat) (x : Operand) : qstep C P T n0 d (.fldA o n x) s K = PE.step C P T n0 d (.fldA o n x) s K := _root_.id rfl
@[simp] theorem qstep_fld (C : Known) (P : Program) (T : Nat → Prop) (n0 : Nat) (d : Option Nat) (s : PS) (K : PS → Prop) (o : Nat) (x : Operand) : qstep C P T n0 d (.fld o x) s K = PE.step C P T n0 d (.fld o x) s K := _root_.id rfl
@[simp] theorem qstep_ixS (C : Known) (P : Program) (T : Nat → Prop) (n0 : Nat) (d : Option Nat) (s : PS) (K : PS → Prop) (n : Nat) (x i : Operand) : qstep C P T n0 d (.ixS n x i) s K = PE.step C P T n0 d (.ixS n x i) s K := _root_.id rfl
@[simp] theorem qstep_ixP (C : Known) (P : Program) (T : Nat → Prop) (n0 : Nat) (d : Option Nat) (s : PS) (K : PS → Prop) (l n : Nat) (x i : Operand) : qstep C P T n0 d (.ixP l n x i) s K = PE.step C P T n0 d (.ixP l n x i) s K := _root_.id rfl
@[simp] theorem qstep_ixA (C : Known) (P : Program) (T : Nat → Prop) (n0 : Nat) (d : Option Nat) (s : PS) (K : PS → Prop) (l n : Nat) (x i : Operand) : qstep C P T n0 d (.ixA l n x i) s K = PE.step C P T n0 d (.ixA l n x i) s K := _root_.id rfl
@[simp] theorem qstep_ix (C : Known) (P : Program) (T : Nat → Prop) (n0 : Nat) (d : Option Nat) (s : PS) (K : PS → Prop) (l : Nat) (x i : Operand) : qstep C P T n0 d (.ix l x i) s K = PE.step C P T n0 d (.ix l x i) s K := _root_.id rfl
@[simp] theorem qstep_slS (C : Known) (P : Program) (T : Nat → Prop) (n0 : Nat) (d : Option Nat) (s : PS) (K : PS → Prop) (n : Nat) (x : Operand) (lo hi mx : Option Operand) : qstep C P T n0 d (.slS n x lo hi mx) s K = PE.step C P T n0 d (.slS n x lo hi mx) s K := _root_.id rfl
@[simp] theorem qstep_len (C : Known) (P : Program) (T : Nat → Prop) (n0 : Nat) (d : Option Nat) (s : PS) (K : PS → Prop) (x : Operand) : qstep C P T n0 d (.len x) s K = PE.step C P T n0 d (.len x) s K := _root_.id rfl
@[simp] theorem qstep_mkf (C : Known) (P : Program) (T : Nat → Prop) (n0 : Nat) (d : Option Nat) (s : PS) (K : PS → Prop) (f : FuncId) (a b : List Operand) : qstep C P T n0 d (.mkf f a b) s K = PE.step C P T n0 d (.mkf f a b) s K := _root_.id rfl
@[simp] theorem qstep_sc (C : Known) (P : Program) (T : Nat → Prop) (n0 : Nat) (d : Option Nat) (s : PS) (K : PS → Prop) (op : Op) (ty : TypeId) : qstep C P T n0 d (.sc op ty) s K = PE.step C P T n0 d (.sc op ty) s K := _root_.id rfl

/-! slices in boxes -/
attribute [simp] step_cns step_mks0 step_ixB step_lenB step_capB step_slB step_stN step_mkB step_appB step_cpy step_callB
@[simp] theorem qstep_cns (C : Known) (P : Program) (T : Nat → Prop) (n0 : Nat) (d : Option Nat) (s : PS) (K : PS → Prop)  : qstep C P T n0 d (PI.cns) s K = PE.step C P T n0 d (PI.cns) s K := _root_.id rfl
@[simp] theorem qstep_ixB (C : Known) (P : Program) (T : Nat → Prop) (n0 : Nat) (d : Option Nat) (s : PS) (K : PS → Prop) (n : Nat) (x i : Operand) : qstep C P T n0 d (.ixB n x i) s K = PE.step C P T n0 d (.ixB n x i) s K := _root_.id rfl
@[simp] theorem qstep_lenB (C : Known) (P : Program) (T : Nat → Prop) (n0 : Nat) (d : Option Nat) (s : PS) (K : PS → Prop) (x : Operand) : qstep C P T n0 d (.lenB x) s K = PE.step C P T n0 d (.lenB x) s K := _root_.id rfl
@[simp] theorem qstep_capB (C : Known) (P : Program) (T : Nat → Prop) (n0 : Nat) (d : Option Nat) (s : PS) (K : PS → Prop) (x : Operand) : qstep C P T n0 d (.capB x) s K = PE.step C P T n0 d (.capB x) s K := _root_.id rfl
@[simp] theorem qstep_slB (C : Known) (P : Program) (T : Nat → Prop) (n0 : Nat) (d : Option Nat) (s : PS) (K : PS → Prop) (n : Nat) (x : Operand) (lo hi mx : Option Operand) : qstep C P T n0 d (.slB n x lo hi mx) s K = PE.step C P T n0 d (.slB n x lo hi mx) s K := _root_.id rfl
def wqCallB (C : Known) (n0 : Nat) (f : Nat) (args : List Value) (d : Option Nat) (s : PS) (K : PS → Prop) : Prop := ∃ H1 args' v, Sub n0 H1 s.H ∧ Cvs n0 s.H H1 args args' ∧ plain v = true ∧ C f args' H1 s.nx (fun _ => False) (fun p _ _ => p = v) ∧ K (s.putO d v)
@[simp] theorem qstep_callB (C : Known) (P : Program) (T : Nat → Prop) (n0 : Nat) (d : Option Nat) (s : PS) (K : PS → Prop) (f : Nat) (args : List Operand) : qstep C P T n0 d (.callB f args) s K = wqCallB C n0 f (args.map s.ev) d s K := _root_.id rfl
@[simp] theorem dg_slc (k off n cap : Nat) : dg (slc k off n cap) = slc k off n cap := _root_.id rfl
@[simp] theorem dg1_slc (k off n cap : Nat) : dg1 (slc k off n cap) = slc k off n cap := _root_.id rfl
@[simp] theorem dgT_slc (k off n cap : Nat) : dgT (slc k off n cap) = slc k off n cap := _root_.id rfl
@[simp] theorem dg_ns (xs : List Value) : dg (ns xs) = deep xs := _root_.id rfl
@[simp] theorem dg1_ns (xs : List Value) : dg1 (ns xs) = deep xs := _root_.id rfl
@[simp] theorem dgT_ns (xs : List Value) : dgT (ns xs) = ns xs := _root_.id rfl
@[simp] theorem cellsOf_slc (k off n cap : Nat) : cellsOf (slc k off n cap) = some [slc k off n cap] := _root_.id rfl
@[simp] theorem lc_slc (k off n cap : Nat) : lc (slc k off n cap) = [slc k off n cap] := _root_.id rfl
@[simp] theorem elemV_slc (k off n cap : Nat) (i : Int) (size : Nat) : elemV (slc k off n cap) i size = if 0 ≤ i ∧ i < n then some (ptr k (off + i.toNat * size)) else none := _root_.id rfl
@[simp] theorem elemV_deep (xs : List Value) (i : Int) (size : Nat) : elemV (deep xs) i size = elemAt xs i size := _root_.id rfl
@[simp] theorem lenV_slc (k off n cap : Nat) : lenV (slc k off n cap) = some n := _root_.id rfl
@[simp] theorem lenV_deep (xs : List Value) : lenV (deep xs) = some xs.length := _root_.id rfl
@[simp] theorem capV_slc (k off n cap : Nat) : capV (slc k off n cap) = some cap := _root_.id rfl
@[simp] theorem capV_deep (xs : List Value) : capV (deep xs) = some xs.length := _root_.id rfl
@[simp] theorem asSlc_slc' (k off n cap : Nat) : asSlc (slc k off n cap) = some (k, off, n, cap) := _root_.id rfl
@[simp] theorem slV_slc (k off n cap l h m size : Nat) (mx : Bool) : slV (slc k off n cap) l h m size mx = if l ≤ h ∧ h ≤ m ∧ m ≤ cap then some (if m = l then ns [] else slc k (off + l * size) (h - l) (m - l)) else none := _root_.id rfl
@[simp] theorem slV_deep (xs : List Value) (l h m size : Nat) (mx : Bool) : slV (deep xs) l h m size mx = if l ≤ h ∧ h ≤ m ∧ m ≤ xs.length ∧ (∀ x ∈ xs, (lc x).length = size) ∧ (mx = true → m = h) then some (if mx then ns ((xs.drop l).take (h - l)) else deep ((xs.drop l).take (h - l))) else none := _root_.id rfl
theorem srcV_deep (H : Nat → Option (List Value)) {xs : List Value} {size : Nat} (h : ∀ x ∈ xs, (lc x).length = size) : srcV H (deep xs) size = some (xs.length, (xs.flatMap lc).map dg1) := if_pos h
theorem srcV_slc {H : Nat → Option (List Value)} {k off n cap size : Nat} {row : List Value} (hk : H k = some row) (h : off + n * size ≤ row.length) : srcV H (slc k off n cap) size = some (n, ((row.drop off).take (n * size)).map dg1) := by
  show (match H k with | some row => if off + n * size ≤ row.length then some (n, ((row.drop off).take (n * size)).map dg1) else none | none => none) = _
  rw [hk]; exact if_pos h
theorem slc_inj {k off n cap k' off' n' cap' : Nat} (h : slc k off n cap = slc k' off' n' cap') : k = k' ∧ off = off' ∧ n = n' ∧ cap = cap' := by
  have : (k = k' ∧ off = off') ∧ n = n' ∧ cap = cap' := by simpa [slc] using h
  exact ⟨this.1.1, this.1.2, this.2.1, this.2.2⟩
@[simp] theorem wMkB_some (kl kc : IntKind) (nl nc : Int) (bytes : Nat) (zero : List Value) (d : Option Nat) (s : PS) (K : PS → Prop) : wMkB (some (kl, nl)) (some (kc, nc)) bytes zero d s K =
    (0 ≤ nl ∧ nl ≤ nc ∧ nc ≤ maxLen ∧ nc * bytes ≤ 140737488355328 ∧ K ⟨(s.putO d (slc s.nx 0 nl.toNat nc.toNat)).t, upd s.H s.nx (some (List.replicate nc.toNat zero).flatten), s.nx + 1⟩) := by
  apply propext
  constructor
  · rintro ⟨kl', nl', kc', nc', h1, h2, h⟩
    cases h1; cases h2; exact h
  · intro h; exact ⟨kl, nl, kc, nc, rfl, rfl, h⟩
section
variable {C : Known} {P : Program} {T : Nat → Prop} {n0 f : Nat} {args : List Value} {d : Option Nat} {s : PS} {K : PS → Prop}
theorem wCpy_of {k off n cap m size : Nat} {row cells : List Value} (hk : s.H k = some row) (hle : off + n * size ≤ row.length) (hT : T k ∨ n0 ≤ k)
    (hK : K ⟨(s.putO d (.int .i64 (min n m : Nat))).t, upd s.H k (some (row.take off ++ cells.take (min n m * size) ++ row.drop (off + min n m * size))), s.nx⟩) : wCpy T n0 (slc k off n cap) (some (m, cells)) size d s K := by
  refine ⟨k, off, n, cap, row, m, cells, rfl, hk, hle, hT, rfl, ?_⟩
  cases d <;> exact hK
theorem wAppB_ns {xs : List Value} {m size bytes : Nat} {zero cells : List Value} (h1 : ∀ y ∈ xs, (lc y).length = size) (h2 : xs.length + m ≤ maxLen) (h3 : (xs.length + m) * bytes ≤ 140737488355328) (h4 : m = 0 → K ⟨(s.putO d (ns xs)).t, s.H, s.nx⟩)
    (h5 : 0 < m → ∀ cap, xs.length + m ≤ cap → cap ≤ maxLen → K ⟨(s.putO d (slc s.nx 0 (xs.length + m) cap)).t, upd s.H s.nx (some ((xs.flatMap lc).map dg1 ++ cells ++ (List.replicate (cap - (xs.length + m)) zero).flatten)), s.nx + 1⟩) :
    wAppB T n0 (ns xs) (some (m, cells)) size bytes zero d s K :=
  ⟨m, cells, rfl, .inl ⟨xs, rfl, h1, h2, h3, fun h => by cases d <;> exact h4 h, h5⟩⟩
theorem wAppB_slc {k off n cap m size bytes : Nat} {row zero cells : List Value} (hk : s.H k = some row) (hle : off + cap * size ≤ row.length) (hn : n ≤ cap) (hT : T k ∨ n0 ≤ k) (h2 : n + m ≤ maxLen) (h3 : (n + m) * bytes ≤ 140737488355328)
    (h4 : n + m ≤ cap → K ⟨(s.putO d (slc k off (n + m) cap)).t, upd s.H k (some (row.take (off + n * size) ++ cells ++ row.drop (off + (n + m) * size))), s.nx⟩)
    (h5 : cap < n + m → ∀ cap', n + m ≤ cap' → cap' ≤ maxLen → K ⟨(s.putO d (slc s.nx 0 (n + m) cap')).t, upd s.H s.nx (some (((row.drop off).take (n * size)).map dg1 ++ cells ++ (List.replicate (cap' - (n + m)) zero).flatten)), s.nx + 1⟩) :
    wAppB T n0 (slc k off n cap) (some (m, cells)) size bytes zero d s K :=
  ⟨m, cells, rfl, .inr ⟨k, off, n, cap, row, rfl, hk, hle, hn, hT, h2, h3, fun h => by cases d <;> exact h4 h, h5⟩⟩
/-- a call as ever -/
theorem wCallB_of (h : wCall C T n0 f args d s K) : wCallB C T n0 f args d s K := by
  obtain ⟨T', h1, h2, h3⟩ := h
  exact ⟨s.H, args, fun k => .inl rfl, ⟨rfl, fun i a b ha hb => .inl (.inl (by rw [ha] at hb; exact (Option.some.inj hb).symm))⟩, .inl ⟨T', h1, h2, h3⟩⟩
end
/-! at the end -/
def wF (o : Option (List Value)) (n0 : Nat) (R : Post) (H : Nat → Option (List Value)) (nx : Nat) : Prop := ∃ ps, o = some ps ∧ ∃ H1 ps', Sub n0 H1 H ∧ Cvs n0 H H1 ps ps' ∧ R (oneOr ps') H1 nx
theorem Cvs_refl (n0 : Nat) (H H1 : Nat → Option (List Value)) (l : List Value) : Cvs n0 H H1 l l := ⟨rfl, fun i a b ha hb => .inl (.inl (by rw [ha] at hb; exact (Option.some.inj hb).symm))⟩
@[simp] theorem fin_rt (n0 : Nat) (rvs : List RV) (R : Post) (s : PS) : fin n0 rvs R .rt s = wF (resL s rvs) n0 R s.H s.nx := _root_.id rfl
@[simp] theorem fin_nrm (n0 : Nat) (rvs : List RV) (R : Post) (s : PS) : fin n0 rvs R .nrm s = wF (resL s rvs) n0 R s.H s.nx := _root_.id rfl
theorem wF_of {ps : List Value} {n0 nx : Nat} {R : Post} {H : Nat → Option (List Value)} (h : R (oneOr ps) H nx) : wF (some ps) n0 R H nx := ⟨ps, rfl, H, ps, Sub_refl n0 H, Cvs_refl _ _ _ _, h⟩
theorem wF_sub {ps : List Value} {n0 nx : Nat} {R : Post} {H H1 : Nat → Option (List Value)} (hs : Sub n0 H1 H) (h : R (oneOr ps) H1 nx) : wF (some ps) n0 R H nx := ⟨ps, rfl, H1, ps, hs, Cvs_refl _ _ _ _, h⟩
@[simp] theorem oneOr_one (v : Value) : oneOr [v] = v := _root_.id rfl
@[simp] theorem oneOr_two (v w : Value) (r : List Value) : oneOr (v :: w :: r) = tup (v :: w :: r) := _root_.id rfl
attribute [simp] resL resV

/-! loads with the right, out of a box or out of a list that is only read -/
section
variable {C : Known} {P : Program} {T : Nat → Prop} {n0 : Nat}
def wLdT (T : Nat → Prop) (n0 : Nat) (v : Value) (d : Option Nat) (s : PS) (K : PS → Prop) : Prop := (∃ k off row c, v = ptr k off ∧ s.H k = some row ∧ row[off]? = some c ∧ (T k ∨ n0 ≤ k) ∧ K { (s.putO d c) with H := upd s.H k (some (row.set off (dg1 c))) }) ∨
      (isDp v = true ∧ ∃ row off c, lead s.H v = some (row, off) ∧ row[off]? = some c ∧ K (s.putO d (dg1 c)))
@[simp] theorem step_ldT (x : Operand) (d : Option Nat) (s : PS) (K : PS → Prop) : PE.step C P T n0 d (.ld true x) s K = wLdT T n0 (s.ev x) d s K := _root_.id rfl
@[simp] theorem wLdT_dptr (o : Nat) (l : List Value) (d : Option Nat) (s : PS) (K : PS → Prop) : wLdT T n0 (dptr o l) d s K = wO ((l[o]?).map dg1) d s K := by
  apply propext
  constructor
  · rintro (⟨k, off, row, c, h, _⟩ | ⟨_, row, off, c, h1, h2, h3⟩)
    · simp [dptr, ptr] at h
    · obtain ⟨rfl, rfl⟩ : l = row ∧ o = off := by simpa [lead, dptr] using h1
      exact ⟨dg1 c, by rw [h2]; rfl, h3⟩
  · rintro ⟨v, h1, h2⟩
    obtain ⟨c, hc, rfl⟩ := Option.map_eq_some_iff.1 h1
    exact .inr ⟨rfl, l, o, c, by simp [lead, dptr], hc, h2⟩
theorem wLdT_ptr {k off : Nat} {row : List Value} {c : Value} {d : Option Nat} {s : PS} {K : PS → Prop} (h1 : s.H k = some row) (h2 : row[off]? = some c) (h3 : T k ∨ n0 ≤ k)
    (h : K ⟨(s.putO d c).t, upd s.H k (some (row.set off (dg1 c))), s.nx⟩) : wLdT T n0 (ptr k off) d s K := .inl ⟨k, off, row, c, rfl, h1, h2, h3, by cases d <;> exact h⟩
end
end Go.PE
namespace Go.PE
open Go Go.Deep

/-- the value that cells of a type make -/
def toV (P : Program) (e : TypeId) (cs : List Value) : Value := match P.underlying e with
  | some (.struct _) | some (.array _ _) => ag cs
  | _ => cs.headD undef

/-- the pure cells of a type -/
inductive PTy (P : Program) : TypeId → List Value → Prop
  | bool (t : TypeId) (b : Bool) (h : P.underlying t = some .bool) : PTy P t [.bool b]
  | int (t : TypeId) (k : IntKind) (n : Int) (h : P.underlying t = some (.int k)) (hw : (Lit.int k n).wf = true) : PTy P t [.int k n]
  | str (t : TypeId) (s : ByteArray) (h : P.underlying t = some .string) (hs : s.size ≤ maxLen) : PTy P t [.string s]
  | slice (t e : TypeId) (xs : List (List Value)) (h : P.underlying t = some (.slice e)) (hl : xs.length ≤ maxLen) (hx : ∀ x ∈ xs, PTy P e x) : PTy P t [deep (xs.map (toV P e))]
  | struct (t : TypeId) (fs : Array Field) (cs : List Value) (h : P.underlying t = some (.struct fs)) (hl : cs.length = P.cellsOf t)
      (hf : ∀ (i : Nat) f, fs[i]? = some f → PTy P f.type ((cs.drop f.offset).take (P.cellsOf f.type))) : PTy P t cs
  | array (t : TypeId) (n : Nat) (e : TypeId) (cs : List Value) (h : P.underlying t = some (.array n e)) (hl : cs.length = P.cellsOf t)
      (hf : ∀ (i : Nat), i < n → PTy P e ((cs.drop (i * P.cellsOf e)).take (P.cellsOf e))) : PTy P t cs

/-- parts that lie one behind the other -/
def tiles : Nat → List (Nat × Nat × TypeId) → Nat → Bool
  | off, [], tot => off == tot
  | off, (o, n, _) :: r, tot => o == off && tiles (off + n) r tot

/-- types without pointers, functions, maps -/
def plainTy (P : Program) : Nat → TypeId → Bool
  | 0, _ => false
  | d + 1, t => match P.underlying t with
    | some .bool | some (.int _) | some .string => P.cellsOf t == 1
    | some (.slice e) => plainTy P d e && P.cellsOf t == 1 && decide (0 < P.cellsOf e) && decide (0 < P.bytesOf e)
    | some (.struct fs) => fs.toList.all (fun f => plainTy P d f.type) && tiles 0 (fs.toList.map fun f => (f.offset, P.cellsOf f.type, f.type)) (P.cellsOf t)
    | some (.array n e) => plainTy P d e && n * P.cellsOf e == P.cellsOf t
    | _ => false

/-- cells and their pure reading -/
def CR (G : Gh) (cs ps : List Value) : Prop :=
  ps.length = cs.length ∧ ∀ (i : Nat) v p, cs[i]? = some v → ps[i]? = some p → v.oneCell' = true ∧ Rd G v p ∧ ∀ e xs, p ≠ lin e xs

theorem CR.nil (G : Gh) : CR G [] [] := ⟨rfl, fun i v p h => by simp at h⟩
theorem CR.append {G : Gh} {a b c d : List Value} (h1 : CR G a c) (h2 : CR G b d) : CR G (a ++ b) (c ++ d) := by
  refine ⟨by simp [h1.1, h2.1], fun i v p hv hp => ?_⟩
  rw [List.getElem?_append] at hv hp
  rw [h1.1] at hp
  split at hv
  · rename_i hi; rw [if_pos hi] at hp; exact h1.2 i v p hv hp
  · rename_i hi; rw [if_neg hi] at hp; exact h2.2 _ v p hv hp
theorem CR.one {G : Gh} {v p : Value} (h1 : v.oneCell' = true) (h2 : Rd G v p) (h3 : ∀ e xs, p ≠ lin e xs) : CR G [v] [p] := by
  refine ⟨rfl, fun i v' p' hv hp => ?_⟩
  cases i with
  | zero => simp at hv hp; subst hv; subst hp; exact ⟨h1, h2, h3⟩
  | succ i => simp at hv

/-- no list in it is longer than N, and no string -/
inductive Bd (N : Nat) : Value → Prop
  | int (k : IntKind) (n : Int) : Bd N (.int k n)
  | bool (b : Bool) : Bd N (.bool b)
  | str (s : ByteArray) (h : s.size ≤ N) : Bd N (.string s)
  | deep (xs : List Value) (hl : xs.length ≤ N) (h : ∀ x ∈ xs, Bd N x) : Bd N (deep xs)
  | ag (cs : List Value) (h : ∀ c ∈ cs, Bd N c) : Bd N (ag cs)
  | undef : Bd N undef
/-- what is said of readings of a type, and of all that they hold -/
structure BdOK {H : Type} (P : Program) (N : Nat) (B : TypeId → DataW H → Prop) : Prop where
  str : ∀ t l, P.underlying t = some .string → B t (.lit (.string l)) → l.length ≤ N
  sl : ∀ t e es sp, P.underlying t = some (.slice e) → 0 < P.bytesOf e → B t (.slice es sp) → es.length ≤ N ∧ ∀ d ∈ es, B e d
  st : ∀ t fs ds, P.underlying t = some (.struct fs) → B t (.agg ds) → ∀ (i : Nat) f d, fs[i]? = some f → ds[i]? = some d → B f.type d
  ar : ∀ t n e ds, P.underlying t = some (.array n e) → B t (.agg ds) → ∀ d ∈ ds, B e d
def Bds {H : Type} (P : Program) (t : TypeId) (x : DataW H) (p : Value) : Prop := ∀ (B : TypeId → DataW H → Prop) (N : Nat), BdOK P N B → B t x → Bd N p

theorem tile_read {G : Gh} {cs : List Value} {Q : TypeId → List Value → Prop} {R : Value → Prop} : ∀ (L : List (Nat × Nat × TypeId)) (off : Nat), off ≤ cs.length → tiles off L cs.length = true →
    (∀ o n t, (o, n, t) ∈ L → ∃ ps, CR G ((cs.drop o).take n) ps ∧ Q t ps ∧ ∀ p ∈ ps, R p) →
    ∃ ps, CR G (cs.drop off) ps ∧ (∀ p ∈ ps, R p) ∧ ∀ o n t, (o, n, t) ∈ L → off ≤ o ∧ Q t ((ps.drop (o - off)).take n)
  | [], off, hle, ht, _ => by
    have : off = cs.length := by simpa [tiles] using ht
    exact ⟨[], by rw [this, List.drop_length]; exact CR.nil G, by simp, fun o n t h => by simp at h⟩
  | (o, n, t) :: r, off, hle, ht, hx => by
    simp only [tiles, Bool.and_eq_true, beq_iff_eq] at ht
    obtain ⟨rfl, ht⟩ := ht
    obtain ⟨ps, hp, hq, hR⟩ := hx o n t (List.mem_cons_self ..)
    have hon : o + n ≤ cs.length := tiles_le r (o + n) _ ht
    obtain ⟨qs, hq1, hR2, hq2⟩ := tile_read r (o + n) hon ht (fun o' n' t' h => hx o' n' t' (List.mem_cons_of_mem _ h))
    have hpl : ps.length = n := by rw [hp.1]; simp; omega
    refine ⟨ps ++ qs, ?_, fun p hp => (List.mem_append.1 hp).elim (hR p) (hR2 p), ?_⟩
    · have := hp.append hq1
      rwa [← List.drop_drop, List.take_append_drop] at this
    · intro o' n' t' h
      rcases List.mem_cons.1 h with h | h
      · cases h
        refine ⟨Nat.le_refl _, ?_⟩
        rw [Nat.sub_self, List.drop_zero, List.take_append_of_le_length (by omega), List.take_of_length_le (by omega)]
        exact hq
      · obtain ⟨h1, h2⟩ := hq2 o' n' t' h
        refine ⟨by omega, ?_⟩
        rw [List.drop_append, List.drop_eq_nil_of_le (by omega), List.nil_append, hpl]
        rwa [show o' - o - n = o' - (o + n) by omega]
where
  tiles_le : ∀ (L : List (Nat × Nat × TypeId)) (off tot : Nat), tiles off L tot = true → off ≤ tot
    | [], off, tot, h => by simp [tiles] at h; omega
    | (o, n, t) :: r, off, tot, h => by
      simp only [tiles, Bool.and_eq_true, beq_iff_eq] at h
      have := tiles_le r (off + n) tot h.2
      omega

theorem tiles_range (c : Nat) (e : TypeId) : ∀ (n s : Nat), tiles (s * c) ((List.range' s n).map fun i => (i * c, c, e)) ((s + n) * c) = true
  | 0, s => by simp [tiles]
  | n + 1, s => by
    simp only [List.range'_succ, List.map_cons, tiles, Bool.and_eq_true, beq_iff_eq, true_and]
    have := tiles_range c e n (s + 1)
    rw [Nat.add_mul, Nat.one_mul] at this
    rwa [show s + 1 + n = s + (n + 1) by omega] at this

theorem Bd.toV {P : Program} {e : TypeId} {N : Nat} {cs : List Value} (h : ∀ p ∈ cs, Bd N p) : Bd N (toV P e cs) := by
  unfold PE.toV
  split
  · exact .ag _ h
  · exact .ag _ h
  · cases cs with
    | nil => exact .undef
    | cons v r => exact h v (List.mem_cons_self ..)

theorem PTy.one {P : Program} {t : TypeId} {cs : List Value} (h : PTy P t cs) (hn : ∀ fs, P.underlying t ≠ some (.struct fs)) (ha : ∀ n e, P.underlying t ≠ some (.array n e)) : ∃ v, cs = [v] ∧ lc v = [v] := by
  cases h with
  | bool _ b h => exact ⟨_, rfl, rfl⟩
  | int _ k n h => exact ⟨_, rfl, rfl⟩
  | str _ s h => exact ⟨_, rfl, rfl⟩
  | slice _ e xs h => exact ⟨_, rfl, rfl⟩
  | struct _ fs cs h => exact absurd h (hn fs)
  | array _ n e cs h => exact absurd h (ha n e)

theorem PTy.lc_toV {P : Program} {t : TypeId} {cs : List Value} (h : PTy P t cs) : lc (toV P t cs) = cs := by
  unfold toV
  split
  · simp
  · simp
  · rename_i h1 h2
    obtain ⟨v, rfl, hv⟩ := h.one (fun fs => h1 fs) (fun n e => h2 n e)
    exact hv

/-- the world of the call, all of it read only -/
def bsize (w : World) (b : Nat) : Nat := match w.heap[b]? with | some (.cells c _ _) => c.size | _ => 0
theorem cell_lt {w : World} {a : Addr} {v : Value} (h : w.cell? a = some v) : a.spot = none ∧ a.off < bsize w a.block := by
  unfold World.cell? at h
  unfold bsize
  split at h
  · rename_i c _ _ hc
    rw [hc]
    split at h
    · cases h
    · rename_i hs
      refine ⟨by simpa using hs, ?_⟩
      exact (Array.getElem?_eq_some_iff.1 h).1
  · cases h

section
variable {H : Type} {enc : TypeId × Value → H} {P : Program} {base : Nat} {spare : Nat → Bool} {held : Bool}

theorem trod_read {G : Gh} (hfr : ∀ b, bsize G.w b ≤ G.fr b) : ∀ (d : Nat) (t : TypeId) (fuel : Nat) (cs : List Value) (x : DataW H × List MemPlace), plainTy P d t = true →
    DataW.trod enc P G.w base spare held fuel t cs = some x → cs.length = P.cellsOf t ∧ ∃ ps, CR G cs ps ∧ PTy P t ps ∧ ∀ p ∈ ps, Bds P t x.1 p
  | 0, t, fuel, cs, x, hp, _ => by simp [plainTy] at hp
  | d + 1, t, fuel, cs, x, hp, h => by
    unfold plainTy at hp
    split at hp
    · rename_i ht
      obtain ⟨b, rfl, hxd⟩ := DataW.trod_bool ht h
      exact ⟨(by simpa using hp : P.cellsOf t = 1).symm, _, CR.one rfl (.scal _ rfl) (fun e xs he => by simp [lin] at he), .bool t b ht, fun p hp => by simp at hp; subst hp; exact fun _ _ _ _ => .bool b⟩
    · rename_i k ht
      obtain ⟨n, rfl, _, hw⟩ := DataW.trod_int ht h
      exact ⟨(by simpa using hp : P.cellsOf t = 1).symm, _, CR.one rfl (.scal _ rfl) (fun e xs he => by simp [lin] at he), .int t k n ht hw, fun p hp => by simp at hp; subst hp; exact fun _ _ _ _ => .int k n⟩
    · rename_i ht
      obtain ⟨s, rfl, hxd, hs⟩ := DataW.trod_string ht h
      exact ⟨(by simpa using hp : P.cellsOf t = 1).symm, _, CR.one rfl (.scal _ rfl) (fun e xs he => by simp [lin] at he), .str t s ht hs, fun p hp => by
        simp at hp; subst hp; subst hxd
        intro B N hB hN
        have h2 := hB.str t s.data.toList ht hN
        have h1 : s.data.toList.length = s.size := Array.length_toList
        exact .str s (by omega)⟩
    · rename_i e ht
      simp only [Bool.and_eq_true, beq_iff_eq, decide_eq_true_eq] at hp
      obtain ⟨⟨⟨hpe, hc1⟩, hc0⟩, hb0⟩ := hp
      rcases open_slice ht h with ⟨rfl, _⟩ | ⟨a, len, cap, m, n, D, Pl, rfl, _, hl, hm, hmm, hxd, hel⟩
      · refine ⟨by simp [hc1], _, CR.one rfl .nil (fun e xs he => by simp [lin, deep] at he), ?_⟩
        exact ⟨.slice t e [] ht (by simp) (fun x hx => by simp at hx), fun p hp => by simp at hp; subst hp; exact fun _ _ _ _ => .deep [] (by simp) (by simp)⟩
      · have hlm : len ≤ m := by rw [hmm]; split <;> omega
        have key : ∀ i, ∃ ps, i < len → ∃ cs', (∀ j, j < P.cellsOf e → G.w.cell? ((a.add (i * P.cellsOf e)).add j) = cs'[j]?) ∧ cs'.length = P.cellsOf e ∧ CR G cs' ps ∧ PTy P e ps ∧ ∀ p ∈ ps, Bds P e (D i) p := by
          intro i
          by_cases hi : i < len
          · obtain ⟨cs', hc', ht'⟩ := hel i (by omega)
            obtain ⟨_, hcl, hat⟩ := World.cells?_some hc'
            obtain ⟨_, ps, h1, h2, h3⟩ := trod_read hfr d e n cs' _ hpe ht'
            exact ⟨ps, fun _ => ⟨cs', hat, hcl, h1, h2, h3⟩⟩
          · exact ⟨[], fun h => absurd h hi⟩
        obtain ⟨F, hF⟩ : ∃ F : Nat → List Value, ∀ i, i < len → ∃ cs', (∀ j, j < P.cellsOf e → G.w.cell? ((a.add (i * P.cellsOf e)).add j) = cs'[j]?) ∧ cs'.length = P.cellsOf e ∧ CR G cs' (F i) ∧ PTy P e (F i) ∧ ∀ p ∈ F i, Bds P e (D i) p :=
          ⟨fun i => (key i).choose, fun i => (key i).choose_spec⟩
        have hget : ∀ q, q < len * P.cellsOf e → ∃ v, G.w.cell? (a.add q) = some v ∧ v.oneCell' = true ∧ a.off + q < G.fr a.block := by
          intro q hq
          have hi : q / P.cellsOf e < len := (Nat.div_lt_iff_lt_mul hc0).2 hq
          have hj : q % P.cellsOf e < P.cellsOf e := Nat.mod_lt _ hc0
          obtain ⟨cs', hat, hcl, hcr, _, _⟩ := hF _ hi
          have h1 := hat _ hj
          rw [Go.Deep.add_add] at h1
          have hq' : q / P.cellsOf e * P.cellsOf e + q % P.cellsOf e = q := by rw [Nat.mul_comm]; exact Nat.div_add_mod ..
          rw [hq'] at h1
          have h2 : cs'[q % P.cellsOf e]? = some (cs'[q % P.cellsOf e]'(by omega)) := List.getElem?_eq_getElem _
          have h3 : (F (q / P.cellsOf e))[q % P.cellsOf e]? = some ((F (q / P.cellsOf e))[q % P.cellsOf e]'(by rw [hcr.1]; omega)) := List.getElem?_eq_getElem _
          refine ⟨_, h1.trans h2, (hcr.2 _ _ _ h2 h3).1, ?_⟩
          have hlt := cell_lt (h1.trans h2)
          have ha : (a.add q).block = a.block ∧ (a.add q).off = a.off + q := by unfold Addr.add; split <;> simp_all
          rw [ha.1, ha.2] at hlt
          exact Nat.lt_of_lt_of_le hlt.2 (hfr _)
        refine ⟨by simp [hc1], [deep (((List.range len).map F).map (toV P e))], CR.one rfl ?_ (fun e xs he => by simp [lin, deep] at he), .slice t e _ ht (by simp; omega) (fun x hx => ?_), fun p hp => ?_⟩
        · have hlen : (((List.range len).map F).map (toV P e)).length = len := by simp
          have := Rd.deep (G := G) a cap (P.cellsOf e) (((List.range len).map F).map (toV P e)) (fun q => (G.w.cell? (a.add q)).getD undef) (fun hne => ?_) (by omega) hm (fun q hq => ?_) (fun i x hx => ?_) (fun i x j y hx hy => ?_)
          · rwa [hlen] at this
          · have h0 : 0 < len := by
              rcases Nat.eq_zero_or_pos len with h0 | h0
              · rw [h0] at hne; simp at hne
              · exact h0
            obtain ⟨v, hv, _⟩ := hget 0 (Nat.mul_pos h0 hc0)
            have := (cell_lt hv).1
            simpa [Addr.add] using this
          · rw [hlen] at hq
            obtain ⟨v, hv, h1, h2⟩ := hget q hq
            rw [hv]
            exact ⟨rfl, h2, h1⟩
          · simp only [List.map_map, List.getElem?_map, Option.map_eq_some_iff, Function.comp] at hx
            obtain ⟨i', hi', rfl⟩ := hx
            have hi : i' < len := by
              have := List.mem_of_getElem? hi'
              simpa using this
            obtain ⟨cs', _, hcl, hcr, hty, _⟩ := hF i' hi
            rw [hty.lc_toV, hcr.1, hcl]
          · simp only [List.map_map, List.getElem?_map, Option.map_eq_some_iff, Function.comp] at hx
            obtain ⟨i', hi', rfl⟩ := hx
            obtain ⟨hi, rfl⟩ : i < len ∧ i = i' := by
              obtain ⟨h1, h2⟩ := List.getElem?_eq_some_iff.1 hi'
              rw [List.getElem_range] at h2
              exact ⟨by simpa using h1, h2⟩
            obtain ⟨cs', hat, hcl, hcr, hty, _⟩ := hF i hi
            rw [hty.lc_toV] at hy
            have hj : j < P.cellsOf e := by rw [← hcl, ← hcr.1]; exact (List.getElem?_eq_some_iff.1 hy).1
            have h1 := hat j hj
            rw [Go.Deep.add_add] at h1
            have h2 : cs'[j]? = some (cs'[j]'(by omega)) := List.getElem?_eq_getElem _
            rw [h1, h2]
            exact (hcr.2 j _ _ h2 hy).2.1
        · simp only [List.mem_map, List.mem_range] at hx
          obtain ⟨i, hi, rfl⟩ := hx
          obtain ⟨_, _, _, _, hty, _⟩ := hF i hi
          exact hty
        · simp only [List.mem_singleton] at hp
          subst hp
          subst hxd
          intro B N hB hN
          have hsl := hB.sl t e ((List.range len).map D) ((List.range (m - len)).map fun j => D (len + j)) ht hb0 hN
          have hl2 : ((List.range len).map D).length = len := by simp
          refine .deep _ (by simp; omega) (fun v hv => ?_)
          simp only [List.map_map, List.mem_map, List.mem_range, Function.comp] at hv
          obtain ⟨i, hi, rfl⟩ := hv
          obtain ⟨_, _, _, _, _, hb⟩ := hF i hi
          exact Bd.toV fun p hp => hb p hp B N hB (hsl.2 _ (List.mem_map.2 ⟨i, List.mem_range.2 hi, rfl⟩))
    · rename_i fs ht
      simp only [Bool.and_eq_true, List.all_eq_true] at hp
      obtain ⟨xs, n, _, hxd, hl, hxl, hf⟩ := DataW.trod_struct ht h
      refine ⟨hl, ?_⟩
      have := tile_read (G := G) (cs := cs) (Q := fun t ps => PTy P t ps) (R := Bds P t x.1) (fs.toList.map fun f => (f.offset, P.cellsOf f.type, f.type)) 0 (Nat.zero_le _) (by rw [hl]; exact hp.2) (fun o n' t' hm => ?_)
      · obtain ⟨ps, h1, h0, h2⟩ := this
        rw [List.drop_zero] at h1
        refine ⟨ps, h1, .struct t fs ps ht (h1.1.trans hl) (fun i f hfi => ?_), h0⟩
        have := (h2 f.offset (P.cellsOf f.type) f.type (List.mem_map.2 ⟨f, List.mem_of_getElem? (by simpa using hfi), rfl⟩)).2
        rwa [Nat.sub_zero] at this
      · obtain ⟨f, hfm, hfe⟩ := List.mem_map.1 hm
        obtain ⟨rfl, rfl, rfl⟩ : f.offset = o ∧ P.cellsOf f.type = n' ∧ f.type = t' := by simpa using hfe
        obtain ⟨i, hi, hfi⟩ := List.getElem_of_mem hfm
        have hfi' : fs[i]? = some f := by rw [← hfi]; simp [Array.getElem?_eq_getElem (show i < fs.size by simpa using hi)]
        have h3 := hf i f hfi'
        have : xs[i]? = some (xs[i]'(by rw [hxl]; simpa using hi)) := List.getElem?_eq_getElem _
        obtain ⟨_, ps, h1, h2, h4⟩ := trod_read hfr d f.type n _ _ (hp.1 f hfm) (h3.trans this)
        exact ⟨ps, h1, h2, fun p hp B N hB hN => h4 p hp B N hB (by rw [hxd] at hN; exact hB.st t fs _ ht hN i f _ hfi' (by rw [List.getElem?_map, this]; rfl))⟩
    · rename_i n e ht
      simp only [Bool.and_eq_true, beq_iff_eq] at hp
      obtain ⟨xs, m, _, hxd, hl, hxl, hf⟩ := DataW.trod_array ht h
      refine ⟨hl, ?_⟩
      have htl := tiles_range (P.cellsOf e) e n 0
      rw [Nat.zero_mul, Nat.zero_add, hp.2, ← hl] at htl
      have := tile_read (G := G) (cs := cs) (Q := fun t ps => PTy P t ps) (R := Bds P t x.1) _ 0 (Nat.zero_le _) htl (fun o n' t' hm => ?_)
      · obtain ⟨ps, h1, h0, h2⟩ := this
        rw [List.drop_zero] at h1
        refine ⟨ps, h1, .array t n e ps ht (h1.1.trans hl) (fun i hi => ?_), h0⟩
        have := (h2 (i * P.cellsOf e) (P.cellsOf e) e (List.mem_map.2 ⟨i, by simp [List.mem_range', hi], rfl⟩)).2
        rwa [Nat.sub_zero] at this
      · obtain ⟨i, hi, hfe⟩ := List.mem_map.1 hm
        obtain ⟨rfl, rfl, rfl⟩ : i * P.cellsOf e = o ∧ P.cellsOf e = n' ∧ e = t' := by simpa using hfe
        have hi' : i < n := by simpa [List.mem_range'] using hi
        have h3 := hf i hi'
        have : xs[i]? = some (xs[i]'(by rw [hxl]; exact hi')) := List.getElem?_eq_getElem _
        obtain ⟨_, ps, h1, h2, h4⟩ := trod_read hfr d e m _ _ hp.1 (h3.trans this)
        exact ⟨ps, h1, h2, fun p hp B N hB hN => h4 p hp B N hB (by rw [hxd] at hN; exact hB.ar t n e _ ht hN _ (List.mem_map.2 ⟨_, List.getElem_mem _, rfl⟩))⟩
    · cases hp
end
end Go.PE
namespace Go.PE
open Go Go.Deep Go.ChangeShapes Go.RowKit

/-- pure arguments of these types -/
def Pargs (P : Program) : List TypeId → List Value → Prop
  | [], [] => True
  | t :: ts, p :: ps => (∃ cs, PTy P t cs ∧ p = toV P t cs) ∧ Pargs P ts ps
  | _, _ => False

/-- the moment of the call: nothing of the program's own is written -/
def G0 (P : Program) (W : World) : Gh := ⟨W, bsize W, fun _ => none, P.globals.size⟩

theorem entry0 (P : Program) (W : World) : Entry P (fun _ => False) (fun _ => none) P.globals.size (fun _ => none) (G0 P W) where
  heap := ⟨fun k row h => by simp at h, fun k _ => rfl, fun k _ => rfl, rfl, Nat.le_refl _, fun k k' b h => by simp [G0] at h, fun g b _ h => by simp [G0] at h, Nat.le_refl _, fun g pos h => by simp at h⟩
  ctok := fun k i e xs h => by simp [pcell, undef, lin] at h
  nolin := fun k row h => h.elim

section
variable {H : Type} {enc : TypeId × Value → H} {P : Program}

theorem value_read {G : Gh} {d base b0 : Nat} {spare : Nat → Bool} {held : Bool} {r : Reach} {t : TypeId} {v : Value} {x : DataW H} {ps : List MemPlace} (hfr : ∀ b, bsize G.w b ≤ G.fr b) (hp : plainTy P d t = true)
    (hok : Value.okWide P G.w r b0 t v) (h : DataW.Trod enc P G.w base spare held t v x ps) : ∃ cs, PTy P t cs ∧ Rd G v (toV P t cs) ∧ Bds P t x (toV P t cs) := by
  obtain ⟨fuel, h⟩ := h
  obtain ⟨_, cs, hcr, hty, hbd⟩ := trod_read hfr d t fuel _ _ hp h
  refine ⟨cs, hty, ?_, fun B N hB hN => Bd.toV fun p hp => hbd p hp B N hB hN⟩
  by_cases hsa : (∃ fs, P.underlying t = some (.struct fs)) ∨ (∃ n e, P.underlying t = some (.array n e))
  · have hv : ∃ c, v = .agg c := by
      rcases hsa with ⟨fs, hs⟩ | ⟨n, e, hs⟩ <;> (unfold Value.okWide at hok; rw [hs] at hok; obtain ⟨c, hc, _⟩ := hok; exact ⟨c, hc⟩)
    obtain ⟨c, rfl⟩ := hv
    have ht : toV P t cs = ag cs := by
      rcases hsa with ⟨fs, hs⟩ | ⟨n, e, hs⟩ <;> (unfold toV; rw [hs])
    rw [ht]
    have := Rd.agg (G := G) c.toList cs (by simpa [Value.cells] using hcr.1.symm) (fun v hv => by
        obtain ⟨i, hi, hvi⟩ := List.getElem_of_mem hv
        have h1 : (Value.agg c).cells.toList[i]? = some v := by simp only [Value.cells]; rw [List.getElem?_eq_getElem hi, hvi]
        have h2 : cs[i]? = some (cs[i]'(by rw [hcr.1]; simpa [Value.cells] using hi)) := List.getElem?_eq_getElem _
        exact (hcr.2 i v _ h1 h2).1) (fun e xs hm => by
        obtain ⟨i, hi, hvi⟩ := List.getElem_of_mem hm
        have h1 : (Value.agg c).cells.toList[i]? = some ((Value.agg c).cells.toList[i]'(by rw [← hcr.1]; exact hi)) := List.getElem?_eq_getElem _
        exact (hcr.2 i _ _ h1 (by rw [List.getElem?_eq_getElem hi, hvi])).2.2 e xs rfl) (fun i u p hu hp => (hcr.2 i u p (by simpa [Value.cells] using hu) hp).2.1)
    simpa [ag] using this
  · have hns : ∀ fs, P.underlying t ≠ some (.struct fs) := fun fs h => hsa (.inl ⟨fs, h⟩)
    have hna : ∀ n e, P.underlying t ≠ some (.array n e) := fun n e h => hsa (.inr ⟨n, e, h⟩)
    obtain ⟨p, rfl, hlc⟩ := hty.one hns hna
    have ht : toV P t [p] = p := by
      unfold toV
      split
      · rename_i h; exact absurd h (hns _)
      · rename_i h; exact absurd h (hna _ _)
      · rfl
    rw [ht]
    have hlen : v.cells.size = 1 := by simpa using hcr.1.symm
    have hna' : ∀ c, v ≠ .agg c := by
      rintro c rfl
      unfold Value.okWide at hok
      split at hok
      · rename_i h; exact hns _ h
      · rename_i h; exact hna _ _ h
      · unfold Cell.okWide at hok
        split at hok <;> first | (rename_i hh; cases hh; done) | skip
        all_goals (unfold Cell.ok at hok; split at hok <;> simp_all)
    have hvc : v.cells = #[v] := by
      cases v <;> first | rfl | exact absurd rfl (hna' _)
    exact (hcr.2 0 v p (by rw [hvc]; rfl) rfl).2.1

theorem args_read {G : Gh} {d base b0 : Nat} {spare : Nat → Bool} {held : Bool} {r : Reach} (hfr : ∀ b, bsize G.w b ≤ G.fr b) : ∀ (ts : List TypeId) (vs : List Value) (ds : List (DataW H)) (ps : List MemPlace), (∀ t ∈ ts, plainTy P d t = true) →
    (∀ (j : Nat) t v, ts[j]? = some t → vs[j]? = some v → Value.okWide P G.w r b0 t v) → DataW.TrodAll enc P G.w base spare held ts vs ds ps →
    ∃ qs, Pargs P ts qs ∧ vs.length = qs.length ∧ ds.length = ts.length ∧ (∀ (i : Nat) v p, vs[i]? = some v → qs[i]? = some p → Rd G v p) ∧ ∀ (B : TypeId → DataW H → Prop) (N : Nat), BdOK P N B → (∀ (i : Nat) t x, ts[i]? = some t → ds[i]? = some x → B t x) → ∀ p ∈ qs, Bd N p
  | [], vs, ds, ps, _, _, h => by
    obtain ⟨rfl, rfl, rfl⟩ := trodAll_nil h
    exact ⟨[], trivial, rfl, rfl, fun i v p hv => by simp at hv, fun _ _ _ _ => by simp⟩
  | t :: ts, vs, ds, ps, hp, hok, h => by
    obtain ⟨v, vs1, x, ds1, a, b, rfl, rfl, rfl, h1, h2⟩ := trodAll_cons h
    obtain ⟨cs, hty, hrd, hbd⟩ := value_read hfr (hp t (List.mem_cons_self ..)) (hok 0 t v rfl rfl) h1
    obtain ⟨qs, hq1, hq2, hq3, hq4, hq5⟩ := args_read hfr ts vs1 ds1 b (fun t ht => hp t (List.mem_cons_of_mem _ ht)) (fun j t v h1 h2 => hok (j + 1) t v h1 h2) h2
    refine ⟨toV P t cs :: qs, ⟨⟨cs, hty, rfl⟩, hq1⟩, by simp [hq2], by simp [hq3], fun i u p hu hp => ?_, fun B N hB hN p hp => ?_⟩
    · cases i with
      | zero => simp at hu hp; subst hu; subst hp; exact hrd
      | succ i => exact hq4 i u p (by simpa using hu) (by simpa using hp)
    · rcases List.mem_cons.1 hp with rfl | hp
      · exact hbd B N hB (hN 0 t x rfl rfl)
      · exact hq5 B N hB (fun i t' x' h1 h2 => hN (i + 1) t' x' h1 h2) p hp

theorem trodAll_stays (hl : laidOutB P = true) {W W' : World} {base : Nat} {sp' : Nat → Bool} : ∀ (ts : List TypeId) (vs : List Value) (ds : List (DataW H)) (ps : List MemPlace), (∀ t ∈ ts, P.readableRec t = true ∧ t < P.types.size) →
    DataW.TrodAll enc P W base (fun _ => true) true ts vs ds ps → (∀ p ∈ ps, W.sameAt W' p) → (∀ p ∈ ps, sp' p.block = true) → DataW.TrodAll enc P W' base sp' true ts vs ds ps
  | [], vs, ds, ps, _, h, _, _ => by
    obtain ⟨rfl, rfl, rfl⟩ := trodAll_nil h
    exact h
  | t :: ts, vs, ds, ps, hr, h, h1, h2 => by
    obtain ⟨v, vs1, x, ds1, a, b, rfl, rfl, rfl, h3, h4⟩ := trodAll_cons h
    refine ⟨a, b, WideElems.Trod_stays hl (hr t (List.mem_cons_self ..)).1 (hr t (List.mem_cons_self ..)).2 h3 (fun p hp => h1 p (List.mem_append_left _ hp)) (fun p hp => h2 p (List.mem_append_left _ hp)), ?_, rfl⟩
    exact trodAll_stays hl ts vs1 ds1 b (fun t ht => hr t (List.mem_cons_of_mem _ ht)) h4 (fun p hp => h1 p (List.mem_append_right _ hp)) (fun p hp => h2 p (List.mem_append_right _ hp))

theorem post_true {f : Func} {s : ChangeSpec} {apart fresh handsOn again : Bool} {W W' : World} {args : Array Value} {ds gs : List (DataW H)} {before : List MemPlace} {tb : TypeId}
    (hl : laidOutB P = true) (hr : ∀ t ∈ f.params.toList, P.readableRec t = true ∧ t < P.types.size) (hv : s.vars = [])
    (hrt : f.resultTypes = #[tb]) (htb : P.underlying tb = some .bool) (hW : DataW.Whole enc P f.params.toList s.vars apart W args.toList ds gs before) (hb : Below W.heap.size W W')
    (h1 : (s.fn H (ds ++ gs)).results = [.lit (.bool true)]) (h2 : (s.fn H (ds ++ gs)).args = ds) (h3 : (s.fn H (ds ++ gs)).vars = []) :
    s.post enc P f apart fresh handsOn again W args (.bool true) W' := by
  have hlt : ∀ p ∈ before, p.block < W.heap.size := fun p hp => by simpa using hW.lt p hp
  have hW0 := hW
  obtain ⟨p, q, hA, hV, rfl, hz, hnd⟩ := hW
  rw [hv] at hV
  obtain ⟨rfl, rfl⟩ := trodVars_none hV
  simp only [List.append_nil] at hlt h1 h2 h3 hz hnd hW0
  have hres : ∀ (b : Nat) (sp : Nat → Bool) (hd : Bool), DataW.TrodAll enc P W' b sp hd f.resultTypes.toList ((Value.bool true).resultList f.resultTypes.size) (s.fn H (ds ++ [])).results [] := by
    intro b sp hd
    rw [List.append_nil, h1, hrt]
    exact trodAll_cons_mk (shut_bool htb true) trodAll_mk0
  have hargs : ∀ sp : Nat → Bool, (∀ x ∈ p, sp x.block = true) → DataW.TrodAll enc P W' 0 sp true f.params.toList args.toList (s.fn H (ds ++ [])).args p := by
    intro sp hsp
    rw [List.append_nil, h2]
    exact trodAll_stays hl _ _ _ _ hr hA (fun x hx => hb.same (hlt x hx)) hsp
  have hvars : ∀ sp : Nat → Bool, DataW.TrodVars enc P W' sp s.vars (s.fn H (ds ++ [])).vars [] := by
    intro sp
    rw [hv, List.append_nil, h3]
    rfl
  refine ⟨ds, [], p, [], p, [], by simpa using hW0, hres _ _ _, hargs _ (fun x hx => by simpa using hlt x hx), hvars _, hb.frame _, fun _ => ?_⟩
  refine ⟨ok_one hrt rfl (okWide_bool_mk htb true), (s.fn H (ds ++ [])).results ++ (s.fn H (ds ++ [])).args, (s.fn H (ds ++ [])).vars, p, ?_, fun x hx _ => hx⟩
  refine ⟨[] ++ p, [], trodAll_append (hargs _ (fun _ _ => rfl)) (hres _ _ _), hvars _, by simp, ?_, ?_⟩
  · intro b off hx
    rw [hb.frozen (hlt _ hx)]
    exact hz b off hx
  · exact hnd

/-- A LAW's CONTRACT IS WHAT THE ROW ASKS -/
theorem row_of {f : FuncId} {fn : Func} {s : ChangeSpec} {d : Nat} {apart fresh handsOn again : Bool} {tb : TypeId} (hl : laidOutB P = true) (hr : ∀ t ∈ fn.params.toList, P.readableRec t = true ∧ t < P.types.size)
    (hp : ∀ t ∈ fn.params.toList, plainTy P d t = true) (hv : s.vars = []) (hrt : fn.resultTypes = #[tb]) (htb : P.underlying tb = some .bool)
    (hs : ∀ ds : List (DataW H), ds.length = fn.params.toList.length → (s.fn H ds).results = [.lit (.bool true)] ∧ (s.fn H ds).args = ds ∧ (s.fn H ds).vars = [])
    (hlaw : ∀ ps, Pargs P fn.params.toList ps → PCalls P f ps (fun _ => none) P.globals.size (fun _ => False) (fun p _ _ => p = .bool true))
    (W : World) (base : Nat) (args : Array Value) (ds gs : List (DataW H)) (before : List MemPlace)
    (hval : ∀ (j : Nat) t v, fn.params[j]? = some t → args[j]? = some v → Value.okWide P W .any base t v)
    (hW : DataW.Whole enc P fn.params.toList s.vars apart W args.toList ds gs before) :
    Calls P f args W fun e W' => ∃ v, e = .returned v ∧ s.post enc P fn apart fresh handsOn again W args v W' := by
  have hW0 := hW
  obtain ⟨p, q, hA, hV, _, _, _⟩ := hW
  rw [hv] at hV
  obtain ⟨rfl, rfl⟩ := trodVars_none hV
  obtain ⟨qs, hq1, hq2, hq3, hq4, _⟩ := args_read (G := G0 P W) (fun b => Nat.le_refl _) _ _ _ _ hp (fun j t v h1 h2 => hval j t v (by simpa using h1) (by simpa using h2)) hA
  obtain ⟨s1, s2, s3⟩ := hs ds hq3
  refine (hlaw qs hq1 (G0 P W) (fun _ => none) args.toList (entry0 P W) hq2 hq4).mono ?_
  rintro e w' ⟨v, pv, G', own', H', nx', rfl, he, hL, rfl⟩
  have hvv := plain_eq hL.res rfl
  subst hvv
  refine ⟨_, he, post_true hl hr hv hrt htb hW0 ⟨hL.os, hL.tape, hL.output, hL.sz, fun b hb => (hL.frame b hb (fun k _ hf => hf)).1⟩ (by simpa using s1) (by simpa using s2) (by simpa using s3)⟩
end
end Go.PE
namespace Go.PE
open Go
theorem w64 {x : Int} (h1 : -9223372036854775808 ≤ x) (h2 : x < 9223372036854775808) : IntKind.i64.wrap x = x := by rw [IntKind.wrap_i64]; omega
theorem wrap64_lo (x : Int) : -9223372036854775808 ≤ IntKind.i64.wrap x := by rw [IntKind.wrap_i64]; omega
theorem wrap64_hi (x : Int) : IntKind.i64.wrap x < 9223372036854775808 := by rw [IntKind.wrap_i64]; omega
theorem elemAt_some {xs : List Value} {n : Int} {size : Nat} {e : Value} {l : List Value} (h0 : 0 ≤ n) (he : xs[n.toNat]? = some e) (hl : cellsOf e = some l) (hs : l.length = size) : elemAt xs n size = some (dptr 0 l) := by
  simp [elemAt, h0, he, hl, hs]
/-- the elements of a slice given by a function on a plain list -/
theorem elemAt_map {α : Type} {f : α → Value} {l : List α} {n : Int} {size : Nat} {c : List Value} (h0 : 0 ≤ n) (hn : n.toNat < l.length) (hc : cellsOf (f l[n.toNat]) = some c) (hs : c.length = size) : elemAt (l.map f) n size = some (dptr 0 c) :=
  elemAt_some h0 (by simp [hn]) hc hs
end Go.PE
namespace Go.PE
open Go Go.Deep Go.ChangeShapes Go.RowKit

/-- the moment of the call: the variables in Hg may be read -/
def GG (P : Program) (W : World) (Hg : Nat → Option (List Value)) : Gh := ⟨W, bsize W, fun k => match Hg k with | some _ => some k | none => none, P.globals.size⟩

/-- the world holds the variables so -/
def Holds (P : Program) (W : World) (Hg : Nat → Option (List Value)) : Prop :=
  ∀ g row, Hg g = some row → g < P.globals.size ∧ (∃ e fz, W.heap[g]? = some (.cells row.toArray e fz)) ∧ ∀ v ∈ row, PE.scal v = true

theorem entryG (P : Program) (W : World) (Hg : Nat → Option (List Value)) (h : Holds P W Hg) : Entry P (fun _ => False) Hg P.globals.size (fun _ => none) (GG P W Hg) where
  heap := {
    ob := fun k row hk => by
      have hk : Hg k = some row := hk
      obtain ⟨hlt, ⟨e, fz, hh⟩, hs⟩ := h k row hk
      have h1 : (GG P W Hg).be k = some k := by
        show (match Hg k with | some _ => some k | none => none) = some k
        rw [hk]
      exact ⟨k, e, row.toArray, fz, h1, hh, by simp, fun i v p hv hp => by
        have hv' : row[i]? = some v := by simpa using hv
        rw [hp] at hv'
        obtain rfl : p = v := by simpa using hv'
        have := hs p (List.mem_of_getElem? hp)
        exact ⟨by cases p <;> first | rfl | simp [PE.scal] at this, .scal p this⟩, fun hW => hW.elim (fun h => h.elim) (fun h => by have h : P.globals.size ≤ k := h; omega), fun h => by have h : P.globals.size ≤ k := h; omega⟩
    bn := fun k hk => by
      show (match Hg k with | some _ => some k | none => none) = none
      rw [show Hg k = none from hk]
    nxH := fun k hk => by
      cases hH : Hg k with
      | none => exact hH
      | some row => have := (h k row hH).1; have hk : P.globals.size ≤ k := hk; omega
    nx := rfl
    n0 := Nat.le_refl _
    inj := fun k k' b h1 h2 => by
      have e1 : k = b := by
        have h1 : (match Hg k with | some _ => some k | none => none) = some b := h1
        split at h1
        · exact Option.some.inj h1
        · cases h1
      have e2 : k' = b := by
        have h2 : (match Hg k' with | some _ => some k' | none => none) = some b := h2
        split at h2
        · exact Option.some.inj h2
        · cases h2
      rw [e1, e2]
    gl := fun g b _ h1 => by
      have h1 : (match Hg g with | some _ => some g | none => none) = some b := h1
      split at h1
      · exact (Option.some.inj h1).symm
      · cases h1
    ng := Nat.le_refl _
    ol := fun g pos h => by simp at h }
  ctok := fun k i e xs hp => by
    exfalso
    unfold pcell at hp
    split at hp
    · rename_i row hk
      have := (h k row hk).2.2
      rw [List.getD_eq_getElem?_getD] at hp
      cases hx : row[i]? with
      | none => rw [hx] at hp; simp [undef, lin] at hp
      | some v =>
        rw [hx] at hp
        have hsc := this v (List.mem_of_getElem? hx)
        have : v = lin e xs := by simpa using hp
        subst this
        simp [lin, PE.scal] at hsc
    · simp [undef, lin] at hp
  nolin := fun k row h => h.elim

section
variable {H : Type} {enc : TypeId × Value → H} {P : Program}
/-- A LAW's CONTRACT IS WHAT THE ROW ASKS -/
theorem row_ofG {f : FuncId} {fn : Func} {s : ChangeSpec} {d : Nat} {apart fresh handsOn again : Bool} {tb : TypeId} (Hg : Nat → Option (List Value)) (hl : laidOutB P = true) (hr : ∀ t ∈ fn.params.toList, P.readableRec t = true ∧ t < P.types.size)
    (hp : ∀ t ∈ fn.params.toList, plainTy P d t = true) (hv : s.vars = []) (hrt : fn.resultTypes = #[tb]) (htb : P.underlying tb = some .bool)
    (hs : ∀ ds : List (DataW H), ds.length = fn.params.toList.length → (s.fn H ds).results = [.lit (.bool true)] ∧ (s.fn H ds).args = ds ∧ (s.fn H ds).vars = [])
    (hlaw : ∀ ps, Pargs P fn.params.toList ps → PCalls P f ps Hg P.globals.size (fun _ => False) (fun p _ _ => p = .bool true))
    (W : World) (hW0 : Holds P W Hg) (base : Nat) (args : Array Value) (ds gs : List (DataW H)) (before : List MemPlace)
    (hval : ∀ (j : Nat) t v, fn.params[j]? = some t → args[j]? = some v → Value.okWide P W .any base t v)
    (hW : DataW.Whole enc P fn.params.toList s.vars apart W args.toList ds gs before) :
    Calls P f args W fun e W' => ∃ v, e = .returned v ∧ s.post enc P fn apart fresh handsOn again W args v W' := by
  have hW1 := hW
  obtain ⟨p, q, hA, hV, _, _, _⟩ := hW
  rw [hv] at hV
  obtain ⟨rfl, rfl⟩ := trodVars_none hV
  obtain ⟨qs, hq1, hq2, hq3, hq4, _⟩ := args_read (G := GG P W Hg) (fun b => Nat.le_refl _) _ _ _ _ hp (fun j t v h1 h2 => hval j t v (by simpa using h1) (by simpa using h2)) hA
  obtain ⟨s1, s2, s3⟩ := hs ds hq3
  refine (hlaw qs hq1 (GG P W Hg) (fun _ => none) args.toList (entryG P W Hg hW0) hq2 hq4).mono ?_
  rintro e w' ⟨v, pv, G', own', H', nx', rfl, he, hL, rfl⟩
  have hvv := plain_eq hL.res rfl
  subst hvv
  refine ⟨_, he, post_true hl hr hv hrt htb hW1 ⟨hL.os, hL.tape, hL.output, hL.sz, fun b hb => (hL.frame b hb (fun k _ hf => hf)).1⟩ (by simpa using s1) (by simpa using s2) (by simpa using s3)⟩
/-- .. WHERE NOTHING THAT IS READ IS LONGER THAN N -/
theorem row_ofGN (B : TypeId → DataW H → Prop) (N : Nat) (hB : BdOK P N B) {f : FuncId} {fn : Func} {s : ChangeSpec} {d : Nat} {apart fresh handsOn again : Bool} {tb : TypeId} (Hg : Nat → Option (List Value)) (hl : laidOutB P = true) (hr : ∀ t ∈ fn.params.toList, P.readableRec t = true ∧ t < P.types.size)
    (hp : ∀ t ∈ fn.params.toList, plainTy P d t = true) (hv : s.vars = []) (hrt : fn.resultTypes = #[tb]) (htb : P.underlying tb = some .bool)
    (hs : ∀ ds : List (DataW H), ds.length = fn.params.toList.length → (s.fn H ds).results = [.lit (.bool true)] ∧ (s.fn H ds).args = ds ∧ (s.fn H ds).vars = [])
    (hlaw : ∀ ps, Pargs P fn.params.toList ps → (∀ p ∈ ps, Bd N p) → PCalls P f ps Hg P.globals.size (fun _ => False) (fun p _ _ => p = .bool true))
    (W : World) (hW0 : Holds P W Hg) (base : Nat) (args : Array Value) (ds gs : List (DataW H)) (before : List MemPlace)
    (hval : ∀ (j : Nat) t v, fn.params[j]? = some t → args[j]? = some v → Value.okWide P W .any base t v)
    (hW : DataW.Whole enc P fn.params.toList s.vars apart W args.toList ds gs before) (hN : ∀ (i : Nat) t x, fn.params.toList[i]? = some t → ds[i]? = some x → B t x) :
    Calls P f args W fun e W' => ∃ v, e = .returned v ∧ s.post enc P fn apart fresh handsOn again W args v W' := by
  have hW1 := hW
  obtain ⟨p, q, hA, hV, _, _, _⟩ := hW
  rw [hv] at hV
  obtain ⟨rfl, rfl⟩ := trodVars_none hV
  obtain ⟨qs, hq1, hq2, hq3, hq4, hq5⟩ := args_read (G := GG P W Hg) (fun b => Nat.le_refl _) _ _ _ _ hp (fun j t v h1 h2 => hval j t v (by simpa using h1) (by simpa using h2)) hA
  obtain ⟨s1, s2, s3⟩ := hs ds hq3
  refine (hlaw qs hq1 (hq5 B N hB hN) (GG P W Hg) (fun _ => none) args.toList (entryG P W Hg hW0) hq2 hq4).mono ?_
  rintro e w' ⟨v, pv, G', own', H', nx', rfl, he, hL, rfl⟩
  have hvv := plain_eq hL.res rfl
  subst hvv
  refine ⟨_, he, post_true hl hr hv hrt htb hW1 ⟨hL.os, hL.tape, hL.output, hL.sz, fun b hb => (hL.frame b hb (fun k _ hf => hf)).1⟩ (by simpa using s1) (by simpa using s2) (by simpa using s3)⟩
end
end Go.PE
namespace Go.PE
open Go

def withinC : PC :=
  (.seq (.reg [((some 4), (none, (.mv (.const (.int .i64 0)))))])
  (.seq (.reg [((some 5), (none, (.mv (.tmp 0)))),
    ((some 6), (none, (.mv (.tmp 1)))),
    ((some 7), (none, (.bi .rem (.tmp 5) (.tmp 6)))),
    ((some 8), (none, (.mv (.tmp 1)))),
    ((some 9), (none, (.bi .add (.tmp 7) (.tmp 8)))),
    ((some 10), (none, (.mv (.tmp 1)))),
    ((some 11), (none, (.bi .rem (.tmp 9) (.tmp 10)))),
    ((some 4), (none, (.mv (.tmp 11))))])
  .ret))
def nextC (w : Nat) : PC :=
  (.seq (.reg [((some 4), (none, (.mv (.const (.int .i64 0)))))])
  (.seq (.seq (.drw [((some 5), (none, (.mv (.tmp 0)))),
    ((some 6), (none, (.nilc (.tmp 5)))),
    ((some 7), (none, (.fa 1 (.tmp 6)))),
    ((some 8), (none, (.ld false (.tmp 7)))),
    ((some 9), (none, (.mv (.tmp 0)))),
    ((some 10), (none, (.nilc (.tmp 9)))),
    ((some 11), (none, (.fa 0 (.tmp 10)))),
    ((some 12), (none, (.ld false (.tmp 11)))),
    ((some 13), (none, (.len (.tmp 12)))),
    ((some 14), (none, (.bi .geq (.tmp 8) (.tmp 13))))])
  (.cond (.tmp 14)
    (.seq (.reg [((some 4), (none, (.mv (.const (.int .i64 0)))))])
    .ret)
    .skip))
  (.seq (.reg [((some 15), (none, (.mv (.tmp 0)))),
    ((some 16), (none, (.nilc (.tmp 15)))),
    ((some 17), (none, (.fa 1 (.tmp 16)))),
    ((some 18), (none, (.ld false (.tmp 17)))),
    ((some 19), (none, (.bi .add (.tmp 18) (.const (.int .i64 1))))),
    ((some 20), (none, (.nilc (.tmp 15)))),
    ((some 21), (none, (.fa 1 (.tmp 20)))),
    (none, (none, (.st 1 (.tmp 21) (.tmp 19))))])
  (.seq (.drw [((some 22), (none, (.mv (.tmp 0)))),
    ((some 23), (none, (.nilc (.tmp 22)))),
    ((some 24), (none, (.fa 0 (.tmp 23)))),
    ((some 25), (none, (.ld false (.tmp 24)))),
    ((some 26), (none, (.mv (.tmp 0)))),
    ((some 27), (none, (.nilc (.tmp 26)))),
    ((some 28), (none, (.fa 1 (.tmp 27)))),
    ((some 29), (none, (.ld false (.tmp 28)))),
    ((some 30), (none, (.bi .sub (.tmp 29) (.const (.int .i64 1))))),
    ((some 31), (none, (.ixS 1 (.tmp 25) (.tmp 30)))),
    ((some 32), (none, (.ld false (.tmp 31)))),
    ((some 33), (none, (.mv (.tmp 1)))),
    ((some 34), (none, (.call w [(.tmp 32), (.tmp 33)]))),
    ((some 4), (none, (.mv (.tmp 34))))])
  .ret))))

/-- what Within computes, for a positive bound -/
def within (x n : Int) : Int := (IntKind.i64.wrap (x.tmod n + n)).tmod n
def WithinOK (P : Program) (f : Nat) : Prop := ∀ (x n : Int), 0 < n → ∀ (H : Nat → Option (List Value)) (nx : Nat),
    PCalls P f [.int .i64 x, .int .i64 n] H nx (fun _ => False) (fun p H' nx' => p = .int .i64 (within x n) ∧ H' = H)
theorem within_ok {P : Program} {f : Nat} (hc : compFn P f = some (12, withinC, [.t 4])) : WithinOK P f := by
  intro x n h0 H nx
  refine PCalls_of hc (by simp) fun hw => ?_
  have hn : n ≠ 0 := by omega
  simp [withinC, hn]
  exact wF_of (by simp [within])

/-- the cells of a deck -/
def dk (l : List Int) (at_ : Int) : List Value := [deep (l.map (.int .i64)), .int .i64 at_]
/-- what Next hands back -/
def nextV (l : List Int) (at_ n : Int) : Int := if at_ < l.length then within (l.getD at_.toNat 0) n else 0
/-- where the deck stands behind it -/
def nextP (l : List Int) (at_ : Int) : Int := if at_ < l.length then at_ + 1 else at_
def NextOK (P : Program) (f : Nat) : Prop := ∀ (k : Nat) (l : List Int) (at_ n : Int), 0 < n → 0 ≤ at_ → l.length ≤ maxLen → ∀ (H : Nat → Option (List Value)) (nx : Nat), H k = some (dk l at_) →
    PCalls P f [ptr k 0, .int .i64 n] H nx (fun j => j = k) (fun p H' _ => p = .int .i64 (nextV l at_ n) ∧ H' = upd H k (some (dk l (nextP l at_))))
theorem upd_self {α : Type} (f : Nat → α) (k : Nat) (v : α) (h : f k = v) : upd f k v = f := by
  funext j; simp only [upd]; split
  · rename_i e; rw [e, h]
  · rfl
theorem next_ok {P : Program} {f w : Nat} (hc : compFn P f = some (35, nextC w, [.t 4])) (hwi : WithinOK P w) : NextOK P f := by
  intro k l at_ n h0 ha hlen H nx hk
  refine PCalls_of hc (by simp) fun hw => ?_
  have hk0 := hk
  unfold dk at hk
  simp [nextC, hk]
  refine wB_of (fun h => ?_) (fun h => ?_)
  · simp at h
    have h1 : ¬ at_ < l.length := by omega
    refine wF_of ⟨by simp [nextV, h1], ?_⟩
    simp only [nextP, if_neg h1]
    exact (upd_self H k _ hk0).symm
  · simp at h
    have hm : (maxLen : Int) = 9223372036854775807 := rfl
    have hlt : at_.toNat < l.length := by omega
    rw [w64 (x := at_ + 1) (by omega) (by omega)]
    simp [w64 (x := at_) (by omega) (by omega)]
    have he : elemAt (l.map (Value.int .i64)) at_ 1 = some (dptr 0 [.int .i64 l[at_.toNat]]) := elemAt_map ha hlt rfl rfl
    rw [he]
    simp
    refine wqCall_of (hwi _ n h0 _ _) rfl (fun p H' nx' h => h.1) ?_
    simp
    exact wF_of ⟨by simp [nextV, h, hlt], by simp [dk, nextP, h]⟩
end Go.PE
namespace Go.PE
open Go

theorem within_range {x n : Int} (h0 : 0 < n) (h1 : n ≤ 4611686018427387904) : 0 ≤ within x n ∧ within x n < n := by
  have a1 := Int.lt_tmod_of_pos x h0
  have a2 := Int.tmod_lt_of_pos x h0
  unfold within
  rw [w64 (by omega) (by omega)]
  exact ⟨Int.tmod_nonneg _ (by omega), Int.tmod_lt_of_pos _ h0⟩

/-- behind a call the deck stands somewhere; v is what came out -/
def Drew (H : Nat → Option (List Value)) (k : Nat) (l : List Int) (H' : Nat → Option (List Value)) : Prop := ∃ at_ : Int, 0 ≤ at_ ∧ H' = upd H k (some (dk l at_))
/-- a function of the deck alone, with these arguments, that hands back a value with Q -/
def Draws (P : Program) (f : Nat) (args : List Value) (Q : Value → Prop) : Prop := ∀ (k : Nat) (l : List Int) (at_ : Int), 0 ≤ at_ → l.length ≤ maxLen → ∀ (H : Nat → Option (List Value)) (nx : Nat), H k = some (dk l at_) →
    PCalls P f (ptr k 0 :: args) H nx (fun j => j = k) (fun p H' _ => Q p ∧ Drew H k l H')
def isI (lo hi : Int) (p : Value) : Prop := ∃ v, p = .int .i64 v ∧ lo ≤ v ∧ v ≤ hi
def NextW (P : Program) (f : Nat) : Prop := ∀ n : Int, 0 < n → n ≤ 4611686018427387904 → Draws P f [.int .i64 n] (isI 0 (n - 1))
theorem next_w {P : Program} {f : Nat} (h : NextOK P f) : NextW P f := by
  intro n h0 h1 k l at_ ha hl H nx hk
  refine (h k l at_ n h0 ha hl H nx hk).mono fun p H' nx' hp => ?_
  obtain ⟨rfl, rfl⟩ := hp
  have := @within_range (l.getD at_.toNat 0) n h0 h1
  refine ⟨⟨_, rfl, ?_, ?_⟩, _, ?_, rfl⟩
  · unfold nextV; split <;> omega
  · unfold nextV; split <;> omega
  · unfold nextP; split <;> omega

theorem dk_noLin (l : List Int) (at_ : Int) : rowNoLin (dk l at_) := by
  intro i e xs h
  unfold dk at h
  match i with
  | 0 => simp [deep, lin] at h
  | 1 => simp [lin] at h
  | i + 2 => simp [undef, lin] at h

/-- a call that draws -/
theorem wCall_draw {P : Program} {T : Nat → Prop} {n0 f : Nat} {d : Option Nat} {s : PS} {K : PS → Prop} {Q : Value → Prop} {args : List Value} {k : Nat} {l : List Int} {at_ : Int} (h : Draws P f args Q) (ha : 0 ≤ at_) (hl : l.length ≤ maxLen)
    (hk : s.H k = some (dk l at_)) (hT : n0 ≤ k ∨ T k) (hK : ∀ p at' nx', Q p → 0 ≤ at' → K ⟨(s.putO d p).t, upd s.H k (some (dk l at')), nx'⟩) : wCall (PCalls P) T n0 f (ptr k 0 :: args) d s K := by
  refine wCall_ofT (h k l at_ ha hl s.H s.nx hk) (fun j hj => by subst hj; exact hT) (fun j row hj hr => by subst hj; rw [hk] at hr; obtain rfl := Option.some.inj hr; exact dk_noLin l at_) fun p H' nx' hp => ?_
  obtain ⟨hq, at', ha', rfl⟩ := hp
  exact hK p at' nx' hq ha'

def rangeC (w : Nat) : PC :=
  (.seq (.reg [((some 6), (none, (.mv (.const (.int .i64 0)))))])
  (.seq (.reg [((some 7), (none, (.mv (.tmp 1)))),
    ((some 8), (none, (.mv (.tmp 0)))),
    ((some 9), (none, (.mv (.tmp 2)))),
    ((some 10), (none, (.mv (.tmp 1)))),
    ((some 11), (none, (.bi .sub (.tmp 9) (.tmp 10)))),
    ((some 12), (none, (.bi .add (.tmp 11) (.const (.int .i64 1))))),
    ((some 13), (none, (.call w [(.tmp 8), (.tmp 12)]))),
    ((some 14), (none, (.bi .add (.tmp 7) (.tmp 13)))),
    ((some 6), (none, (.mv (.tmp 14))))])
  .ret))
theorem upd_upd {α : Type} (f : Nat → α) (k : Nat) (v w : α) : upd (upd f k v) k w = upd f k w := by funext j; simp only [upd]; split <;> rfl
theorem range_w {P : Program} {f w : Nat} (hc : compFn P f = some (15, rangeC w, [.t 6])) (hn : NextW P w) : ∀ lo hi : Int, 0 ≤ lo → lo ≤ hi → hi < 4611686018427387904 → Draws P f [.int .i64 lo, .int .i64 hi] (isI lo hi) := by
  intro lo hi h0 h1 h2 k l at_ ha hl H nx hk
  refine PCalls_of hc (by simp) fun hw => ?_
  simp [rangeC]
  rw [w64 (x := hi - lo) (by omega) (by omega), w64 (x := hi - lo + 1) (by omega) (by omega)]
  refine wCall_draw (hn (hi - lo + 1) (by omega) (by omega)) ha hl hk (.inr rfl) fun p at' nx' hp ha' => ?_
  obtain ⟨v, rfl, hv1, hv2⟩ := hp
  simp
  rw [w64 (x := lo + v) (by omega) (by omega)]
  exact wF_of ⟨⟨lo + v, rfl, by omega, by omega⟩, at', ha', rfl⟩
def minuteC (w : Nat) : PC :=
  (.seq (.reg [((some 2), (none, (.mv (.const (.int .i64 0)))))])
  (.seq (.seq (.reg [((some 3), (none, (.mv (.tmp 0)))),
    ((some 4), (none, (.call w [(.tmp 3), (.const (.int .i64 4))])))])
  (.block 0 (.seq (.reg [((some 6), (none, (.bi .eql (.tmp 4) (.const (.int .i64 0))))),
     ((some 5), (none, (.mv (.tmp 6))))])
   (.cond (.tmp 5)
     (.seq (.reg [((some 7), (none, (.mv (.tmp 0)))),
       ((some 8), (none, (.call w [(.tmp 7), (.const (.int .i64 4320))]))),
       ((some 2), (none, (.mv (.tmp 8))))])
     .ret)
     (.seq (.reg [((some 10), (none, (.bi .eql (.tmp 4) (.const (.int .i64 1))))),
       ((some 9), (none, (.mv (.tmp 10))))])
     (.cond (.tmp 9)
       (.seq (.reg [((some 11), (none, (.mv (.tmp 0)))),
         ((some 12), (none, (.call w [(.tmp 11), (.const (.int .i64 60))]))),
         ((some 13), (none, (.bi .mul (.tmp 12) (.const (.int .i64 1440))))),
         ((some 14), (none, (.mv (.tmp 0)))),
         ((some 15), (none, (.call w [(.tmp 14), (.const (.int .i64 3))]))),
         ((some 16), (none, (.bi .add (.tmp 13) (.tmp 15)))),
         ((some 17), (none, (.mm false (.tmp 16) (.const (.int .i64 67108864))))),
         ((some 2), (none, (.mv (.tmp 17))))])
       .ret)
       (.seq (.reg [((some 19), (none, (.bi .eql (.tmp 4) (.const (.int .i64 2))))),
         ((some 18), (none, (.mv (.tmp 19))))])
       (.cond (.tmp 18)
         (.seq (.reg [((some 20), (none, (.mv (.tmp 0)))),
           ((some 21), (none, (.call w [(.tmp 20), (.const (.int .i64 4320))]))),
           ((some 22), (none, (.bi .sub (.const (.int .i64 67108864)) (.tmp 21)))),
           ((some 2), (none, (.mv (.tmp 22))))])
         .ret)
         .skip))))))))
  (.seq (.reg [((some 23), (none, (.mv (.tmp 0)))),
    ((some 24), (none, (.call w [(.tmp 23), (.const (.int .i64 67108865))]))),
    ((some 2), (none, (.mv (.tmp 24))))])
  .ret)))
theorem minute_w {P : Program} {f w : Nat} (hc : compFn P f = some (25, minuteC w, [.t 2])) (hn : NextW P w) : Draws P f [] (isI 0 67108864) := by
  intro k l at_ ha hl H nx hk
  refine PCalls_of hc (by simp) fun hw => ?_
  simp [minuteC]
  refine wCall_draw (hn 4 (by omega) (by omega)) ha hl hk (.inr rfl) fun p at1 nx1 hp ha1 => ?_
  obtain ⟨v, rfl, hv1, hv2⟩ := hp
  simp
  refine wB_of (fun h1 => ?_) (fun h1 => ?_)
  · refine wCall_draw (hn 4320 (by omega) (by omega)) ha1 hl (by simp) (.inr rfl) fun p at2 nx2 hp ha2 => ?_
    obtain ⟨v2, rfl, hv21, hv22⟩ := hp
    simp
    exact wF_of ⟨⟨v2, rfl, by omega, by omega⟩, at2, ha2, by simp [upd_upd]⟩
  · refine wB_of (fun h2 => ?_) (fun h2 => ?_)
    · refine wCall_draw (hn 60 (by omega) (by omega)) ha1 hl (by simp) (.inr rfl) fun p at2 nx2 hp ha2 => ?_
      obtain ⟨v2, rfl, hv21, hv22⟩ := hp
      simp
      refine wCall_draw (hn 3 (by omega) (by omega)) ha2 hl (by simp) (.inr rfl) fun p at3 nx3 hp ha3 => ?_
      obtain ⟨v3, rfl, hv31, hv32⟩ := hp
      simp
      rw [w64 (x := v2 * 1440) (by omega) (by omega), w64 (x := v2 * 1440 + v3) (by omega) (by omega)]
      refine wF_of ⟨⟨_, rfl, by split <;> omega, by split <;> omega⟩, at3, ha3, by simp [upd_upd]⟩
    · refine wB_of (fun h3 => ?_) (fun h3 => ?_)
      · refine wCall_draw (hn 4320 (by omega) (by omega)) ha1 hl (by simp) (.inr rfl) fun p at2 nx2 hp ha2 => ?_
        obtain ⟨v2, rfl, hv21, hv22⟩ := hp
        simp
        rw [w64 (x := 67108864 - v2) (by omega) (by omega)]
        exact wF_of ⟨⟨67108864 - v2, rfl, by omega, by omega⟩, at2, ha2, by simp [upd_upd]⟩
      · refine wCall_draw (hn 67108865 (by omega) (by omega)) ha1 hl (by simp) (.inr rfl) fun p at2 nx2 hp ha2 => ?_
        obtain ⟨v2, rfl, hv21, hv22⟩ := hp
        simp
        exact wF_of ⟨⟨v2, rfl, by omega, by omega⟩, at2, ha2, by simp [upd_upd]⟩
end Go.PE
namespace Go.PE
open Go

def names : List ByteArray := [⟨#[97]⟩, ⟨#[98]⟩, ⟨#[97, 110, 110]⟩, ⟨#[98, 111, 98]⟩, ⟨#[99, 105, 100]⟩, ⟨#[122, 111, 101]⟩, ⟨#[97, 97]⟩, ⟨#[97, 98, 99, 100, 101, 102, 103, 104, 105, 106, 107, 108, 109, 110, 111, 112]⟩]
def isN (p : Value) : Prop := ∃ b ∈ names, p = .string b
def nameC (e w : Nat) : PC :=
  (.seq (.reg [((some 2), (none, (.mv (.const (.string ⟨#[]⟩)))))])
  (.seq (.reg [((some 3), (none, (.mks e 1 false [(.const (.string ⟨#[97]⟩)), (.const (.string ⟨#[98]⟩)), (.const (.string ⟨#[97, 110, 110]⟩)), (.const (.string ⟨#[98, 111, 98]⟩)), (.const (.string ⟨#[99, 105, 100]⟩)), (.const (.string ⟨#[122, 111, 101]⟩)), (.const (.string ⟨#[97, 97]⟩)), (.const (.string ⟨#[97, 98, 99, 100, 101, 102, 103, 104, 105, 106, 107, 108, 109, 110, 111, 112]⟩))]))),
    ((some 4), (none, (.mv (.tmp 0)))),
    ((some 5), (none, (.call w [(.tmp 4), (.const (.int .i64 8))]))),
    ((some 6), (none, (.ixS 1 (.tmp 3) (.tmp 5)))),
    ((some 7), (none, (.ld false (.tmp 6)))),
    ((some 2), (none, (.mv (.tmp 7))))])
  .ret))
theorem name_w {P : Program} {f w e : Nat} (hc : compFn P f = some (8, nameC e w, [.t 2])) (hn : NextW P w) : Draws P f [] isN := by
  intro k l at_ ha hl H nx hk
  refine PCalls_of hc (by simp) fun hw => ?_
  simp [nameC]
  refine wCall_draw (hn 8 (by omega) (by omega)) ha hl hk (.inr rfl) fun p at1 nx1 hp ha1 => ?_
  obtain ⟨v, rfl, hv1, hv2⟩ := hp
  simp
  have hv : v = 0 ∨ v = 1 ∨ v = 2 ∨ v = 3 ∨ v = 4 ∨ v = 5 ∨ v = 6 ∨ v = 7 := by omega
  rcases hv with rfl | rfl | rfl | rfl | rfl | rfl | rfl | rfl <;> simp [elemAt] <;> exact wF_of ⟨⟨_, by simp [names], rfl⟩, at1, ha1, rfl⟩

/-- a new deck -/
def newC : PC :=
  (.seq (.reg [((some 2), (none, (.mv (.const (.pointer none)))))])
  (.seq (.reg [((some 3), (none, (.mv (.tmp 0)))),
    ((some 4), (none, (.build [(.inr ((.tmp 3), 1)), (.inl [(.int .i64 0)])]))),
    ((some 5), (none, (.box 2 (.tmp 4)))),
    ((some 2), (none, (.mv (.tmp 5))))])
  .ret))
theorem new_ok {P : Program} {f : Nat} (hc : compFn P f = some (6, newC, [.t 2])) (l : List Int) (H : Nat → Option (List Value)) (nx : Nat) :
    PCalls P f [deep (l.map (.int .i64))] H nx (fun _ => False) (fun p H' nx' => p = ptr nx 0 ∧ H' = upd H nx (some (dk l 0)) ∧ nx' = nx + 1) := by
  refine PCalls_of hc (by simp) fun hw => ?_
  simp [newC]
  exact wF_of ⟨rfl, rfl, rfl⟩

/-- a context of the deck's -/
def isCtx (p : Value) : Prop := ∃ z l m b, p = ag [.int .i64 z, .int .i64 l, .int .i64 m, .string b] ∧ 0 ≤ z ∧ z ≤ 63 ∧ 0 ≤ l ∧ l ≤ 31 ∧ 0 ≤ m ∧ m ≤ 67108864 ∧ b ∈ names
def contextC (w r m n : Nat) : PC :=
  (.seq (.reg [((some 2), (none, (.alloc [(.int .i64 0), (.int .i64 0), (.int .i64 0), (.string ⟨#[]⟩)])))])
  (.seq (.reg [((some 3), (none, (.mv (.tmp 0)))),
    ((some 4), (none, (.call w [(.tmp 3), (.const (.int .i64 4))]))),
    ((some 5), (none, (.mv (.tmp 0)))),
    ((some 6), (none, (.call r [(.tmp 5), (.const (.int .i64 1)), (.const (.int .i64 21))]))),
    ((some 7), (none, (.bi .mul (.tmp 4) (.tmp 6)))),
    ((some 8), (none, (.mv (.tmp 0)))),
    ((some 9), (none, (.call w [(.tmp 8), (.const (.int .i64 32))]))),
    ((some 10), (none, (.mv (.tmp 0)))),
    ((some 11), (none, (.call m [(.tmp 10)]))),
    ((some 12), (none, (.mv (.tmp 0)))),
    ((some 13), (none, (.call n [(.tmp 12)]))),
    ((some 14), (none, (.build [(.inr ((.tmp 7), 1)), (.inr ((.tmp 9), 1)), (.inr ((.tmp 11), 1)), (.inr ((.tmp 13), 1))]))),
    (none, (none, (.st 4 (.tmp 2) (.tmp 14))))])
  .ret))
theorem context_w {P : Program} {f w r m n : Nat} (hc : compFn P f = some (15, contextC w r m n, [.cA 2 4])) (hn : NextW P w) (hr : ∀ lo hi : Int, 0 ≤ lo → lo ≤ hi → hi < 4611686018427387904 → Draws P r [.int .i64 lo, .int .i64 hi] (isI lo hi))
    (hm : Draws P m [] (isI 0 67108864)) (hN : Draws P n [] isN) : Draws P f [] isCtx := by
  intro k l at_ ha hl H nx hk
  refine PCalls_of hc (by simp) fun hw => ?_
  have hne : k ≠ nx := fun e => by rw [e, hw nx (Nat.le_refl _)] at hk; cases hk
  simp [contextC]
  refine wCall_draw (hn 4 (by omega) (by omega)) ha hl (by simp [hne, hk]) (.inr rfl) fun p at1 nx1 hp ha1 => ?_
  obtain ⟨v1, rfl, h11, h12⟩ := hp
  simp
  refine wCall_draw (hr 1 21 (by omega) (by omega) (by omega)) ha1 hl (by simp) (.inr rfl) fun p at2 nx2 hp ha2 => ?_
  obtain ⟨v2, rfl, h21, h22⟩ := hp
  have hz : 0 ≤ v1 * v2 ∧ v1 * v2 ≤ 63 := by
    refine ⟨Int.mul_nonneg h11 (by omega), ?_⟩
    have : v1 * v2 ≤ 3 * 21 := Int.mul_le_mul (by omega) h22 (by omega) (by omega)
    omega
  simp
  rw [w64 (x := v1 * v2) (by omega) (by omega)]
  refine wCall_draw (hn 32 (by omega) (by omega)) ha2 hl (by simp) (.inr rfl) fun p at3 nx3 hp ha3 => ?_
  obtain ⟨v3, rfl, h31, h32⟩ := hp
  simp
  refine wCall_draw hm ha3 hl (by simp) (.inr rfl) fun p at4 nx4 hp ha4 => ?_
  obtain ⟨v4, rfl, h41, h42⟩ := hp
  simp
  refine wCall_draw hN ha4 hl (by simp) (.inr rfl) fun p at5 nx5 hp ha5 => ?_
  obtain ⟨b, hb, rfl⟩ := hp
  simp [Ne.symm hne]
  refine wF_sub (H1 := upd H k (some (dk l at5))) (fun j => ?_) ⟨⟨v1 * v2, v3, v4, b, rfl, hz.1, hz.2, h31, by omega, h41, h42, hb⟩, at5, ha5, rfl⟩
  by_cases hj : j = nx
  · subst hj; right; exact ⟨Nat.le_refl _, by simp [Ne.symm hne, hw]⟩
  · left; simp [hj, upd_upd]
end Go.PE
namespace Go.PE
open Go
def uptoC (w : Nat) : PC :=
  (.seq (.reg [((some 4), (none, (.mv (.const (.int .i64 0)))))])
  (.seq (.seq (.reg [((some 5), (none, (.mv (.tmp 0)))),
    ((some 6), (none, (.call w [(.tmp 5), (.const (.int .i64 4))])))])
  (.block 0 (.seq (.reg [((some 8), (none, (.bi .eql (.tmp 6) (.const (.int .i64 0))))),
     ((some 7), (none, (.mv (.tmp 8))))])
   (.cond (.tmp 7)
     (.seq (.reg [((some 9), (none, (.mv (.tmp 0)))),
       ((some 10), (none, (.call w [(.tmp 9), (.const (.int .i64 4))]))),
       ((some 11), (none, (.mv (.tmp 1)))),
       ((some 12), (none, (.mm false (.tmp 10) (.tmp 11)))),
       ((some 4), (none, (.mv (.tmp 12))))])
     .ret)
     (.seq (.reg [((some 14), (none, (.bi .eql (.tmp 6) (.const (.int .i64 1))))),
       ((some 13), (none, (.mv (.tmp 14))))])
     (.cond (.tmp 13)
       (.seq (.reg [((some 15), (none, (.mv (.tmp 0)))),
         ((some 16), (none, (.call w [(.tmp 15), (.const (.int .i64 300))]))),
         ((some 17), (none, (.mv (.tmp 1)))),
         ((some 18), (none, (.mm false (.tmp 16) (.tmp 17)))),
         ((some 4), (none, (.mv (.tmp 18))))])
       .ret)
       (.seq (.reg [((some 20), (none, (.bi .eql (.tmp 6) (.const (.int .i64 2))))),
         ((some 19), (none, (.mv (.tmp 20))))])
       (.cond (.tmp 19)
         (.seq (.reg [((some 21), (none, (.mv (.tmp 1)))),
           ((some 22), (none, (.mv (.tmp 0)))),
           ((some 23), (none, (.mv (.tmp 1)))),
           ((some 24), (none, (.bi .add (.tmp 23) (.const (.int .i64 1))))),
           ((some 25), (none, (.mm false (.const (.int .i64 3)) (.tmp 24)))),
           ((some 26), (none, (.call w [(.tmp 22), (.tmp 25)]))),
           ((some 27), (none, (.bi .sub (.tmp 21) (.tmp 26)))),
           ((some 4), (none, (.mv (.tmp 27))))])
         .ret)
         .skip))))))))
  (.seq (.reg [((some 28), (none, (.mv (.tmp 0)))),
    ((some 29), (none, (.mv (.tmp 1)))),
    ((some 30), (none, (.bi .add (.tmp 29) (.const (.int .i64 1))))),
    ((some 31), (none, (.call w [(.tmp 28), (.tmp 30)]))),
    ((some 4), (none, (.mv (.tmp 31))))])
  .ret)))
theorem upto_w {P : Program} {f w : Nat} (hc : compFn P f = some (32, uptoC w, [.t 4])) (hn : NextW P w) : ∀ n : Int, 2 ≤ n → n < 4611686018427387903 → Draws P f [.int .i64 n] (isI 0 n) := by
  intro n h0 h1 k l at_ ha hl H nx hk
  refine PCalls_of hc (by simp) fun hw => ?_
  simp [uptoC]
  refine wCall_draw (hn 4 (by omega) (by omega)) ha hl hk (.inr rfl) fun p at1 nx1 hp ha1 => ?_
  obtain ⟨v, rfl, hv1, hv2⟩ := hp
  simp
  refine wB_of (fun h1 => ?_) (fun h1 => ?_)
  · refine wCall_draw (hn 4 (by omega) (by omega)) ha1 hl (by simp) (.inr rfl) fun p at2 nx2 hp ha2 => ?_
    obtain ⟨v2, rfl, hv21, hv22⟩ := hp
    simp
    exact wF_of ⟨⟨_, rfl, by split <;> omega, by split <;> omega⟩, at2, ha2, by simp [upd_upd]⟩
  · refine wB_of (fun h2 => ?_) (fun h2 => ?_)
    · refine wCall_draw (hn 300 (by omega) (by omega)) ha1 hl (by simp) (.inr rfl) fun p at2 nx2 hp ha2 => ?_
      obtain ⟨v2, rfl, hv21, hv22⟩ := hp
      simp
      exact wF_of ⟨⟨_, rfl, by split <;> omega, by split <;> omega⟩, at2, ha2, by simp [upd_upd]⟩
    · refine wB_of (fun h3 => ?_) (fun h3 => ?_)
      · rw [w64 (x := n + 1) (by omega) (by omega), if_neg (by omega)]
        refine wCall_draw (hn 3 (by omega) (by omega)) ha1 hl (by simp) (.inr rfl) fun p at2 nx2 hp ha2 => ?_
        obtain ⟨v2, rfl, hv21, hv22⟩ := hp
        simp
        rw [w64 (x := n - v2) (by omega) (by omega)]
        exact wF_of ⟨⟨n - v2, rfl, by omega, by omega⟩, at2, ha2, by simp [upd_upd]⟩
      · rw [w64 (x := n + 1) (by omega) (by omega)]
        refine wCall_draw (hn (n + 1) (by omega) (by omega)) ha1 hl (by simp) (.inr rfl) fun p at2 nx2 hp ha2 => ?_
        obtain ⟨v2, rfl, hv21, hv22⟩ := hp
        simp
        exact wF_of ⟨⟨v2, rfl, by omega, by omega⟩, at2, ha2, by simp [upd_upd]⟩
end Go.PE
namespace Go.PE
open Go
theorem and_mask {m : Int} {n : Nat} (h0 : 0 ≤ m) (h1 : m < 18446744073709551616) (hn : n < 64) : bitsV .and .u64 m (2 ^ n - 1) = m % 2 ^ n := by
  obtain ⟨a, rfl⟩ := Int.eq_ofNat_of_zero_le h0
  have hp : (2 : Nat) ^ n ≤ 2 ^ 63 := Nat.pow_le_pow_right (by omega) (by omega)
  have hpos : 0 < (2 : Nat) ^ n := Nat.two_pow_pos n
  have e1 : ((2 : Int) ^ n - 1) = ((2 ^ n - 1 : Nat) : Int) := by
    rw [Int.natCast_sub (by omega)]; simp
  have e2 : (2 : Int) ^ n = ((2 ^ n : Nat) : Int) := by simp
  rw [e1, e2]
  have e3 : (BitVec.ofInt 64 ((2 ^ n - 1 : Nat) : Int)).toNat = 2 ^ n - 1 := by
    rw [BitVec.toNat_ofInt]; simp; omega
  have e4 : (BitVec.ofInt 64 (a : Int)).toNat = a := by
    rw [BitVec.toNat_ofInt]; simp; omega
  unfold bitsV
  show IntKind.u64.wrap ((BitVec.ofInt 64 (a : Int) &&& BitVec.ofInt 64 ((2 ^ n - 1 : Nat) : Int)).toNat : Int) = _
  rw [BitVec.toNat_and, e3, e4, Nat.and_two_pow_sub_one_eq_mod, IntKind.wrap_u64]
  have : a % 2 ^ n < 2 ^ n := Nat.mod_lt _ hpos
  rw [← Int.natCast_emod]
  omega
end Go.PE
