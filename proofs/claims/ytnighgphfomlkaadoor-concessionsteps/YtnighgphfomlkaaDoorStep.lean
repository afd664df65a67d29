/- Concession authorities: New, Register and Valid answer as specified: the inner loops. Concession authorities: New, Register and Valid answer as specified: the loop over the authorities. Concession authorities: New, Register and Valid answer as specified: a full authority is made. Concession authorities: New, Register and Valid answer as specified: the law. Persons and concession authorities among the arguments. -/
import Derived.Test.YtnighgphfomlkaaDoorPers
set_option linter.all false
namespace Go.PE
open Go
@[simp] theorem Con.asAgv (p : Con) : asAg p.v = some p.cells := _root_.id rfl
@[simp] theorem Con.lcv (p : Con) : lc p.v = p.cells := _root_.id rfl
theorem elem_con {l : List Con} {n : Int} (h0 : 0 ≤ n) (hn : n.toNat < l.length) : elemAt (l.map Con.v) n 34 = some (dptr 0 l[n.toNat].cells) := elemAt_map h0 hn rfl (by simp)
theorem regV_len (c : Con) (p : Per) : (regV c p).1.ps.length ≤ c.ps.length + 1 := by
  unfold regV
  split; · simp [con0]
  split; · simp [con0]
  split; · simp [con0]
  split; · simp [con0]
  split; · simp [con0]
  simp
def Con.fine (c : Con) : Prop := (∀ x ∈ c.ps, x.wf) ∧ c.ps.length ≤ 1000000
/-- what stands while the persons are tried -/
def Jn (p : Per) (l : List Int) (g nx : Nat) (cs : List Con) (i : Nat) (c : Con) (kc : Nat) (qs : List Per) (j : Nat) (s : PS) : Prop :=
  s.t 7 = ptr (nx + 1) 0 ∧ s.t 13 = ptr (nx + 3) 0 ∧ s.t 23 = ptr kc 0 ∧ s.t 124 = deep (cs.map Con.v) ∧ s.t 125 = .int .i64 cs.length ∧ s.t 126 = .int .i64 i ∧ s.t 143 = deep (qs.map Per.v) ∧ s.t 144 = .int .i64 qs.length ∧ s.t 145 = .int .i64 j ∧
    s.H kc = some c.cells ∧ s.H (nx + 1) = some p.cells ∧ (∃ at' : Int, 0 ≤ at' ∧ s.H (nx + 3) = some (dk l at')) ∧ s.H g = some bitsRow ∧ nx + 3 < s.nx ∧ kc < s.nx
theorem steps_j2 {P : Program} {e sa re rr va ra g nx : Nat} (hsa : SameCnOK P sa) (hre : RegOK P re g) (hrr : RRegOK P rr) (hva : CnOK P va g) (hra : RCnOK P ra)
    {p : Per} {l : List Int} {cs : List Con} {i kc : Nat} {c : Con} {qs : List Per} {j : Nat} (hj : j < qs.length) (hq : qs.length ≤ 1000000) (hqw : ∀ q ∈ qs, q.wf) (hc : c.fine) (hgn : g < nx) {s : PS} (hs : Jn p l g nx cs i c kc qs j s) {Q : Ex → PS → Prop}
    (hQ : ∀ s', Jn p l g nx cs i c kc qs (j + 1) s' → Q .nrm s') : wpc (PCalls P) P (fun _ => False) nx (law27_ConcessionStepsC_j2 e sa re rr va ra) Q s := by
  obtain ⟨T, H, n⟩ := s
  obtain ⟨e7, e13, e23, e124, e125, e126, e143, e144, e145, hkc, hp, ⟨at', ha', ed⟩, hg, hn, hkn⟩ := hs
  simp only at e7 e13 e23 e124 e125 e126 e143 e144 e145 hkc hp ed hg hn hkn
  obtain ⟨hcw, hcl⟩ := hc
  have hmx : (maxLen : Int) = 9223372036854775807 := rfl
  have he := elem_per (l := qs) (n := (j : Int)) (by omega) (by simpa using hj)
  simp at he
  have hqj := hqw qs[j] (List.getElem_mem _)
  have a1 : ¬ kc = n := by omega
  have a2 : ¬ g = n := by omega
  have a3 : ¬ nx + 1 = n := by omega
  have a4 : ¬ nx + 3 = n := by omega
  have le1 : nx ≤ n := by omega
  simp [law27_ConcessionStepsC_j2, e23, e143, e145, he, hkc, a1, a2, le1, Con.ag, Per.ag, -List.reduceReplicate]
  refine wCall_eq (Q := fun r => r = regR c qs[j]) (hre c qs[j] hcw (by omega) hqj _ _ (by simp [a2, hg]) (by simp; omega)) fun r n1 hr hn1 => ?_
  subst hr
  simp at hn1
  have b1 : ¬ kc = n1 := by omega
  have b2 : ¬ g = n1 := by omega
  have b3 : ¬ nx + 1 = n1 := by omega
  have b4 : ¬ nx + 3 = n1 := by omega
  have b5 : ¬ n = n1 := by omega
  have b6 : ¬ n1 = n := by omega
  have le2 : nx ≤ n1 := by omega
  rw [regR]
  simp [e23, hkc, a1, a2, b1, b2, b5, b6, le1, le2, Con.ag, Per.ag, -List.reduceReplicate]
  refine wCall_eq (Q := fun r => r = regR c qs[j]) (hrr c qs[j] hcw (by omega) hqj _ _) fun r n2 hr hn2 => ?_
  subst hr
  simp at hn2
  have c1 : ¬ kc = n2 := by omega
  have c2 : ¬ g = n2 := by omega
  have c3 : ¬ nx + 1 = n2 := by omega
  have c4 : ¬ nx + 3 = n2 := by omega
  have c5 : ¬ n = n2 := by omega
  have c6 : ¬ n2 = n := by omega
  have c7 : ¬ n1 = n2 := by omega
  have c8 : ¬ n2 = n1 := by omega
  have le3 : nx ≤ n2 := by omega
  rw [regR]
  simp [e23, hkc, a1, a2, b1, b2, b5, b6, c1, c2, c5, c6, c7, c8, le1, le2, le3, Con.ag, Per.ag, -List.reduceReplicate]
  have hrl := regV_len c qs[j]
  refine wqCall_of (hsa (regV c qs[j]).1 (by omega) _ _) rfl (fun _ _ _ h => h.1) ?_
  simp [e23, hkc, a1, a2, b1, b2, b5, b6, c1, c2, c5, c6, c7, c8, le1, le2, le3, Con.ag, Per.ag, -List.reduceReplicate]
  refine wqCall_of (hva c hcw (by omega) _ _ (by simp [a2, b2, c2, hg]) (by simp; omega)) rfl (fun _ _ _ h => h.1) ?_
  simp [e23, hkc, a1, a2, b1, b2, b5, b6, c1, c2, c5, c6, c7, c8, le1, le2, le3, Con.ag, Per.ag, -List.reduceReplicate]
  refine wqCall_of (hra c hcw (by omega) _ _) rfl (fun _ _ _ h => h.1) ?_
  simp [e145, -List.reduceReplicate]
  rw [w64 (x := (j : Int) + 1) (by omega) (by omega)]
  exact hQ _ ⟨by simp [e7], by simp [e13], by simp [e23], by simp [e124], by simp [e125], by simp [e126], by simp [e143], by simp [e144], by simp, by simp [a1, b1, c1, hkc], by simp [a3, b3, c3, hp], ⟨at', ha', by simp [a4, b4, c4, ed]⟩, by simp [a2, b2, c2, hg], by simp; omega, by simp; omega⟩
theorem steps_in {P : Program} {e sa re rr va ra g nx : Nat} (hsa : SameCnOK P sa) (hre : RegOK P re g) (hrr : RRegOK P rr) (hva : CnOK P va g) (hra : RCnOK P ra)
    {p : Per} {l : List Int} {cs : List Con} {i kc : Nat} {c : Con} {qs : List Per} (hq : qs.length ≤ 1000000) (hqw : ∀ q ∈ qs, q.wf) (hc : c.fine) (hgn : g < nx) {s : PS} (hs : Jn p l g nx cs i c kc qs 0 s) {Q : Ex → PS → Prop}
    (hQ : ∀ s', Jn p l g nx cs i c kc qs qs.length s' → Q (.ext 4) s') :
    wpc (PCalls P) P (fun _ => False) nx (.loop (.seq (.reg [((some 146), (none, (.bi .lss (.tmp 145) (.tmp 144))))])
      (.seq (.cond (.tmp 146) .skip (.exit 4)) (law27_ConcessionStepsC_j2 e sa re rr va ra)))) Q s := by
  refine wpc_loop _ _ _ _ _ _ (fun s => ∃ j : Nat, j ≤ qs.length ∧ Jn p l g nx cs i c kc qs j s) (fun s => match s.t 145 with | .int _ j => (qs.length - j).toNat | _ => 0) _ ⟨0, by omega, hs⟩ ?_
  rintro s' ⟨j, hj, hJ⟩
  have e144 := hJ.2.2.2.2.2.2.2.1
  have e145 := hJ.2.2.2.2.2.2.2.2.1
  obtain ⟨T, H, n⟩ := s'
  simp only at e144 e145
  simp [e144, e145]
  refine wB_of (fun hlt => ?_) (fun hlt => ?_)
  · simp at hlt
    refine steps_j2 hsa hre hrr hva hra hlt hq hqw hc hgn (s := _) (c := c) (kc := kc) (p := p) (l := l) (cs := cs) (i := i) ?_ (fun s'' h2 => ?_)
    · obtain ⟨h1, h2, h3, h4, h5, h6, h7, h8, h9, h10, h11, h12, h13, h14, h15⟩ := hJ
      exact ⟨by simpa using h1, by simpa using h2, by simpa using h3, by simpa using h4, by simpa using h5, by simpa using h6, by simpa using h7, by simpa using h8, by simpa using h9, h10, h11, h12, h13, h14, h15⟩
    · have h145 := h2.2.2.2.2.2.2.2.2.1
      refine kLoop_nrm _ _ _ _ (Sub_refl _ _) ⟨j + 1, by omega, h2⟩ (by simp only [h145]; omega)
  · simp at hlt
    have : j = qs.length := by omega
    subst this
    refine hQ _ ?_
    obtain ⟨h1, h2, h3, h4, h5, h6, h7, h8, h9, h10, h11, h12, h13, h14, h15⟩ := hJ
    exact ⟨by simpa using h1, by simpa using h2, by simpa using h3, by simpa using h4, by simpa using h5, by simpa using h6, by simpa using h7, by simpa using h8, by simpa using h9, h10, h11, h12, h13, h14, h15⟩
end Go.PE
namespace Go.PE
open Go
def newB : ByteArray := ⟨#[110, 101, 119]⟩
/-- what stands while the authorities are tried -/
def Jo (p : Per) (l : List Int) (g nx : Nat) (cs : List Con) (i : Nat) (s : PS) : Prop :=
  s.t 7 = ptr (nx + 1) 0 ∧ s.t 13 = ptr (nx + 3) 0 ∧ s.t 124 = deep (cs.map Con.v) ∧ s.t 125 = .int .i64 cs.length ∧ s.t 126 = .int .i64 i ∧
    s.H (nx + 1) = some p.cells ∧ (∃ at' : Int, 0 ≤ at' ∧ s.H (nx + 3) = some (dk l at')) ∧ s.H g = some bitsRow ∧ nx + 3 < s.nx
set_option maxHeartbeats 4000000 in
theorem steps_j3 {P : Program} {e sa nm nx_ re rr va ra g nx : Nat} (hsa : SameCnOK P sa) (hnm : Draws P nm [] isN) (hn : NextW P nx_) (hre : RegOK P re g) (hrr : RRegOK P rr) (hva : CnOK P va g) (hra : RCnOK P ra)
    {p : Per} {l : List Int} {cs : List Con} {i : Nat} (hi : i < cs.length) (hcl : cs.length ≤ 1000000) (hp : p.wf) (hl : l.length ≤ maxLen) (hc : ∀ c ∈ cs, c.fine) (hgn : g < nx) {s : PS} (hs : Jo p l g nx cs i s) {Q : Ex → PS → Prop}
    (hQ : ∀ s', Jo p l g nx cs (i + 1) s' → Q .nrm s') : wpc (PCalls P) P (fun _ => False) nx (law27_ConcessionStepsC_j3 e sa nm nx_ re rr va ra) Q s := by
  obtain ⟨T, H, n⟩ := s
  obtain ⟨e7, e13, e124, e125, e126, hpc, ⟨at', ha', ed⟩, hg, hnx⟩ := hs
  simp only at e7 e13 e124 e125 e126 hpc ed hg hnx
  have hmx : (maxLen : Int) = 9223372036854775807 := rfl
  have he := elem_con (l := cs) (n := (i : Int)) (by omega) (by simpa using hi)
  simp at he
  have hci := hc cs[i] (List.getElem_mem _)
  generalize cs[i] = c at he hci
  have a1 : ¬ nx + 1 = n := by omega
  have a2 : ¬ g = n := by omega
  have a3 : ¬ nx + 3 = n := by omega
  have a4 : ¬ n = nx + 3 := by omega
  have a5 : ¬ g = nx + 3 := by omega
  have a6 : ¬ nx + 1 = nx + 3 := by omega
  have le1 : nx ≤ n := by omega
  simp [law27_ConcessionStepsC_j3, e7, e13, e124, e126, he, a1, a2, a3, a4, a5, a6, le1, hpc, Con.ag, Per.ag, -List.reduceReplicate]
  repeat' first
    | refine And.intro ?_ ?_
    | (refine wCall_drawL hnm (l := l) (at_ := at') ha' hl (by simp [ed, a3]) (.inl (by omega)) fun v1 at2 n2 hv ha2 hn2 => ?_
       obtain ⟨nmB, hmem, rfl⟩ := hv
       simp at hn2
       simp [e7, e13, a1, a2, a3, a4, a5, a6, hpc, Per.ag, -List.reduceReplicate])
    | (refine wCall_drawL (hn 9 (by omega) (by omega)) (l := l) (at_ := at2) ha2 hl (by simp) (.inl (by omega)) fun v2 at3 n3 hv ha3 hn3 => ?_
       obtain ⟨bn, rfl, hb0, hb1⟩ := hv
       simp at hn3
       simp [e7, e13, a1, a2, a3, a4, a5, a6, hpc, Per.ag, -List.reduceReplicate])
  all_goals
    refine steps_in hsa hre hrr hva hra (c := c) (kc := n) (p := p) (l := l) (cs := cs) (i := i) (qs := [p, ⟨nmB, IntKind.i64.wrap (bn - 4)⟩, ⟨newB, p.born⟩, ⟨p.name, 0⟩]) (by simp) ?_ hci hgn ?_ (fun s' hJ => ?_)
    · have hnS := names_size hmem
      intro q hq
      simp at hq
      rcases hq with rfl | rfl | rfl | rfl
      · exact hp
      · show (nmB.size : Int) ≤ _; omega
      · show (newB.size : Int) ≤ _; decide
      · exact hp
    · exact ⟨by simp [e7], by simp [e13], by simp, by simp [e124], by simp [e125], by simp [e126], by simp; rfl, by simp, by simp, by simp [a4], by simp [a1, a6, hpc], ⟨at3, ha3, by simp⟩, by simp [a2, a5, hg], by simp; omega, by simp; omega⟩
    · obtain ⟨T2, H2, m2⟩ := s'
      obtain ⟨h1, h2, h3, h4, h5, h6, h7, h8, h9, h10, h11, h12, h13, h14, h15⟩ := hJ
      simp only at h1 h2 h4 h5 h6 h11 h12 h13 h14
      simp [h6]
      rw [w64 (x := (i : Int) + 1) (by omega) (by omega)]
      exact hQ _ ⟨by simp [h1], by simp [h2], by simp [h4], by simp [h5], by simp, h11, h12, h13, h14⟩
end Go.PE
namespace Go.PE
open Go
def fRow (x : Con) (w : Value) : List Value := x.cells.set 33 w
@[simp] theorem fRow_len (x : Con) (w : Value) : (fRow x w).length = 34 := by simp [fRow]
@[simp] theorem fRow_33 (x : Con) (w : Value) : (fRow x w)[33]? = some w := by
  simp [fRow]
@[simp] theorem fRow_E33 (x : Con) (w : Value) (h : 33 < (fRow x w).length) : (fRow x w)[33] = w := getEl_of (fRow_33 x w) h
@[simp] theorem fRow_set (x : Con) (w w' : Value) : (fRow x w).set 33 w' = fRow x w' := by simp [fRow]
theorem fRow_dg {x : Con} {w : Value} {fs : List Per} (h : dg1 w = deep (fs.map Per.v)) : (fRow x w).map dg1 = (⟨x.party, x.key, fs⟩ : Con).cells := by
  have : (fRow x w).map dg1 = (x.cells.map dg1).set 33 (dg1 w) := by simp [fRow, List.map_set]
  rw [this, Con.dg1s, h, con_set']
theorem fRow_self (x : Con) : x.cells = fRow x (deep (x.ps.map Per.v)) := (con_set' x x.ps).symm
/-- what stands when the authorities are ready -/
def Jq (raw : Con) (p : Per) (l : List Int) (g nx : Nat) (x : Con) (kx kf : Nat) (s : PS) : Prop :=
  s.t 6 = ptr nx 0 ∧ s.t 7 = ptr (nx + 1) 0 ∧ s.t 13 = ptr (nx + 3) 0 ∧ s.t 19 = ptr kx 0 ∧ s.t 20 = ptr kf 0 ∧ s.H nx = some raw.cells ∧ s.H (nx + 1) = some p.cells ∧ (∃ at' : Int, 0 ≤ at' ∧ s.H (nx + 3) = some (dk l at')) ∧ s.H g = some bitsRow ∧
    nx + 3 < s.nx ∧ s.H kx = some x.cells
theorem steps_j4 {P : Program} {aw e sa tc nm nx_ re rr va ra g nx : Nat} (haw : Aw27OK P aw g) (hsa : SameCnOK P sa) (hnm : Draws P nm [] isN) (hn : NextW P nx_) (hre : RegOK P re g) (hrr : RRegOK P rr) (hva : CnOK P va g) (hra : RCnOK P ra)
    {raw x : Con} {p : Per} {l : List Int} {kx kf : Nat} {fs : List Per} {w : Value} (hp : p.wf) (hl : l.length ≤ maxLen) (hraw : raw.fine) (hx : x.fine) (hfs : Con.fine ⟨x.party, x.key, fs⟩) (hdw : dg1 w = deep (fs.map Per.v)) (hgn : g < nx) {s : PS}
    (hs : Jq raw p l g nx x kx kf s) (hkf : s.H kf = some (fRow x w)) {Q : Ex → PS → Prop}
    (hQ : ∀ s', s'.t 12 = .bool true → Q .rt s') : wpc (PCalls P) P (fun _ => False) nx (law27_ConcessionStepsC_j4 aw e sa tc nm nx_ re rr va ra) Q s := by
  obtain ⟨T, H, n⟩ := s
  obtain ⟨e6, e7, e13, e19, e20, hH0, hpc, hd, hg, hnx, hkx⟩ := hs
  simp only at e6 e7 e13 e19 e20 hH0 hpc hd hg hnx hkx hkf
  have hmx : (maxLen : Int) = 9223372036854775807 := rfl
  have hfd := fRow_dg (x := x) hdw
  simp [law27_ConcessionStepsC_j4, e6, e19, e20, hH0, hkx, hkf, hfd, Con.ag, -List.reduceReplicate]
  refine wpc_loop _ _ _ _ _ _ (fun s => ∃ i : Nat, i ≤ 3 ∧ Jo p l g nx [x, raw, ⟨x.party, x.key, fs⟩] i s) (fun s => match s.t 126 with | .int _ i => (3 - i).toNat | _ => 0) _
    ⟨0, by omega, by simp [e7], by simp [e13], by simp, by simp, by simp, by simp [hpc], hd, by simp [hg], by simpa using hnx⟩ ?_
  rintro s' ⟨i, hi, hJ⟩
  obtain ⟨T2, H2, n2⟩ := s'
  obtain ⟨h1, h2, h3, h4, h5, h6, h7, h8, h9⟩ := hJ
  simp only at h1 h2 h3 h4 h5 h6 h7 h8 h9
  have h4' : T2 125 = .int .i64 3 := h4
  simp [h4', h5]
  refine wB_of (fun hlt => ?_) (fun hlt => ?_)
  · simp at hlt
    refine steps_j3 hsa hnm hn hre hrr hva hra (p := p) (l := l) (cs := [x, raw, ⟨x.party, x.key, fs⟩]) (i := i) (by simp; omega) (by simp) hp hl ?_ hgn ?_ (fun s'' hJ2 => ?_)
    · intro c hc
      simp at hc
      rcases hc with rfl | rfl | rfl
      · exact hx
      · exact hraw
      · exact hfs
    · exact ⟨by simp [h1], by simp [h2], by simp [h3], by simp [h4'], by simp [h5], h6, h7, h8, h9⟩
    · have h126 := hJ2.2.2.2.2.1
      refine kLoop_nrm _ _ _ _ (Sub_refl _ _) ⟨i + 1, by omega, hJ2⟩ (by simp only [h126]; omega)
  · simp at hlt
    refine wCall_eq (Q := fun r => r = .bool true) (haw _ _ h8 (by simp; omega)) fun r n5 hr hn5 => ?_
    subst hr
    simp
    exact hQ _ (by simp)
set_option maxHeartbeats 1000000 in
theorem steps_j5 {P : Program} {aw e sa co tu tc nm nx_ re rr va ra g nx : Nat} (haw : Aw27OK P aw g) (hsa : SameCnOK P sa) (hco : ∀ key : Tag, Draws P co [key.v] (isCon key)) (hnm : Draws P nm [] isN) (hn : NextW P nx_) (hre : RegOK P re g) (hrr : RRegOK P rr) (hva : CnOK P va g) (hra : RCnOK P ra)
    {raw : Con} {p : Per} {key : Tag} {l : List Int} {u : Int} (hu : 0 ≤ u ∧ u < 256) (hp : p.wf) (hl : l.length ≤ maxLen) (hraw : raw.fine) (hgn : g < nx) {s : PS}
    (h5 : s.t 5 = .int .u8 u) (h6 : s.t 6 = ptr nx 0) (h7 : s.t 7 = ptr (nx + 1) 0) (h9 : s.t 9 = ptr (nx + 2) 0) (h13 : s.t 13 = ptr (nx + 3) 0) (hH0 : s.H nx = some raw.cells) (hH1 : s.H (nx + 1) = some p.cells) (hH2 : s.H (nx + 2) = some key.cells)
    (hd : ∃ at' : Int, 0 ≤ at' ∧ s.H (nx + 3) = some (dk l at')) (hg : s.H g = some bitsRow) (hnx : nx + 3 < s.nx) {Q : Ex → PS → Prop}
    (hQ : ∀ s', s'.t 12 = .bool true → Q .rt s') : wpc (PCalls P) P (fun _ => False) nx (law27_ConcessionStepsC_j5 aw e sa co tu tc nm nx_ re rr va ra) Q s := by
  obtain ⟨T, H, n⟩ := s
  simp only at h5 h6 h7 h9 h13 hH0 hH1 hH2 hd hg hnx
  obtain ⟨at', ha', ed⟩ := hd
  have hmx : (maxLen : Int) = 9223372036854775807 := rfl
  have tk : List.take 32 key.cells = key.cells := key.take32
  simp [law27_ConcessionStepsC_j5, h9, h13, hH2, tk, -List.reduceReplicate]
  refine wCall_drawL (hco key) (l := l) (at_ := at') ha' hl (by simp [ed]) (.inl (by omega)) fun v1 at2 n2 hv ha2 hn2 => ?_
  obtain ⟨x, rfl, hk, hx5, hxw⟩ := hv
  simp at hn2
  have a1 : ¬ nx = n2 := by omega
  have a2 : ¬ nx + 1 = n2 := by omega
  have a3 : ¬ nx + 3 = n2 := by omega
  have a4 : ¬ n2 = nx + 3 := by omega
  have a5 : ¬ g = n2 := by omega
  have a6 : ¬ n2 = n2 + 1 := by omega
  have a7 : ¬ n2 + 1 = n2 := by omega
  have b1 : ¬ nx = n2 + 1 := by omega
  have b2 : ¬ nx + 1 = n2 + 1 := by omega
  have b3 : ¬ nx + 3 = n2 + 1 := by omega
  have b4 : ¬ n2 + 1 = nx + 3 := by omega
  have b5 : ¬ g = n2 + 1 := by omega
  have c1 : ¬ nx = nx + 3 := by omega
  have c2 : ¬ nx + 1 = nx + 3 := by omega
  have c5 : ¬ g = nx + 3 := by omega
  have le1 : nx ≤ n2 := by omega
  have le2 : nx ≤ n2 + 1 := by omega
  simp [a1, a2, a3, a4, a5, a6, a7, b1, b2, b3, b4, b5, le1, le2, -List.reduceReplicate]
  have ht8 : 0 ≤ u.tmod 8 ∧ u.tmod 8 < 8 := ⟨Int.tmod_nonneg _ hu.1, Int.tmod_lt_of_pos _ (by omega)⟩
  have hc1 : IntKind.i64.wrap u = u := w64 (by omega) (by omega)
  have hc2 : IntKind.i64.wrap (57 + u.tmod 8) = 57 + u.tmod 8 := w64 (by omega) (by omega)
  obtain ⟨m8, hm8⟩ : ∃ m8, u.tmod 8 = m8 := ⟨_, rfl⟩
  rw [hm8] at ht8 hc2
  refine wpc_loop _ _ _ _ _ _ (fun s => ∃ (i : Nat) (fs : List Per) (w : Value), i ≤ 64 ∧ fs.length ≤ 5 + i ∧ (∀ q ∈ fs, q.wf) ∧ dg1 w = deep (fs.map Per.v) ∧ s.t 5 = .int .u8 u ∧ s.t 6 = ptr nx 0 ∧ s.t 7 = ptr (nx + 1) 0 ∧ s.t 13 = ptr (nx + 3) 0 ∧ s.t 19 = ptr n2 0 ∧ s.t 20 = ptr (n2 + 1) 0 ∧ s.t 21 = .int .i64 i ∧
      s.H nx = some raw.cells ∧ s.H (nx + 1) = some p.cells ∧ s.H (nx + 3) = some (dk l at2) ∧ s.H g = some bitsRow ∧ s.H n2 = some x.cells ∧ s.H (n2 + 1) = some (fRow x w) ∧ n2 + 1 < s.nx)
    (fun s => match s.t 21 with | .int _ i => (57 + m8 - i).toNat | _ => 0) _
    ⟨0, x.ps, deep (x.ps.map Per.v), by omega, by omega, hxw, by simp, by simp [h5], by simp [h6], by simp [h7], by simp [h13], by simp, by simp, by simp, by simp [a1, b1, c1, hH0], by simp [a1, a2, b2, c2, hH1], by simp [a3, b3], by simp [a5, b5, c5, hg], by simp [a6], by simp [← fRow_self], by simp⟩ ?_
  clear h5 h6 h7 h13 hH0 hH1 hH2 ed hg hnx
  rintro ⟨T, H', nx'⟩ ⟨i, fs, w, hi, hfl, hfw, hdw, h5, h6, h7, h13, h19, h20, h21, hH0, hH1, hHd, hHg, hHx, hHf, hnx⟩
  simp only at h5 h6 h7 h13 h19 h20 h21 hH0 hH1 hHd hHg hHx hHf hnx
  simp [h5, h21, hc1, hm8, hc2]
  refine wB_of (fun hlt => ?_) (fun hlt => ?_)
  · simp at hlt
    have hq8 : 0 ≤ (i : Int).tdiv 8 ∧ (i : Int).tdiv 8 ≤ 64 := by
      rw [Int.tdiv_eq_ediv_of_nonneg (by omega)]; omega
    have hsz : (⟨#[113]⟩ : ByteArray).size ≤ 9223372036854775805 := by decide
    have hbs : ∀ a b : Int, (((⟨#[113]⟩ : ByteArray) ++ strOfNums [a, b]).size : Int) ≤ 9223372036854775807 := fun a b => by
      rw [ByteArray.size_append, strOfNums_size]; show (((⟨#[113]⟩ : ByteArray).size + 2 : Nat) : Int) ≤ _; decide
    have d1 : ¬ nx = n2 + 1 := b1
    simp [law27_ConcessionStepsC_j1, h20, h21, hHf, hdw, strOfNums_size, hsz, -List.reduceReplicate]
    have hbs1 := hbs (IntKind.u8.wrap (IntKind.i64.wrap (97 + IntKind.i64.wrap (↑i / 8)))) (IntKind.u8.wrap (IntKind.i64.wrap (97 + (↑i : Int).tmod 8)))
    generalize ((⟨#[113]⟩ : ByteArray) ++ strOfNums [IntKind.u8.wrap (IntKind.i64.wrap (97 + IntKind.i64.wrap (↑i / 8))), IntKind.u8.wrap (IntKind.i64.wrap (97 + (↑i : Int).tmod 8))]) = nmq at hbs1
    refine ⟨by omega, by omega, by omega, by omega, ?_⟩
    refine sts_of (k := n2 + 1) (off := 33) (e := e) (xs := (fs ++ [(⟨nmq, 0⟩ : Per)]).map Per.v) (row := fRow x w) (by simp [h20]) (by simp [hHf]) (by simp) (.inr (by omega)) (by simp; rfl) ?_
    simp [h21, -List.reduceReplicate, -List.map_append]
    rw [w64 (x := (i : Int) + 1) (by omega) (by omega)]
    refine kLoop_nrm _ _ _ _ (Sub_refl _ _) ⟨i + 1, by omega, fs ++ [(⟨nmq, 0⟩ : Per)], by simp; omega, ?_, lin e ((fs ++ [(⟨nmq, 0⟩ : Per)]).map Per.v), by simp, by simp [h5], by simp [h6], by simp [h7], by simp [h13], by simp [h19], by simp [h20], by simp, by simp [b1, hH0], by simp [b2, a1, hH1], by simp [b3, hHd], by simp [b5, hHg], by simp [a6, hHx], by simp, by simpa using hnx⟩ (by simp; omega)
    intro q hq
    rcases List.mem_append.1 hq with hq | hq
    · exact hfw q hq
    · simp at hq; subst hq; exact hbs1
  · simp at hlt
    refine steps_j4 haw hsa hnm hn hre hrr hva hra (raw := raw) (x := x) (p := p) (l := l) (kx := n2) (kf := n2 + 1) (fs := fs) (w := w) hp hl hraw ⟨hxw, by omega⟩ ⟨hfw, by show fs.length ≤ _; omega⟩ hdw hgn ?_ (by simpa using hHf) hQ
    exact ⟨by simp [h6], by simp [h7], by simp [h13], by simp [h19], by simp [h20], hH0, hH1, ⟨at2, ha2, hHd⟩, hHg, by simp; omega, hHx⟩
end Go.PE
namespace Go.PE
open Go
/-- what stands before the answers of New are looked at -/
def J6 (raw : Con) (p : Per) (key : Tag) (party : Int) (u : Int) (l : List Int) (g nx : Nat) (s : PS) : Prop :=
  s.t 2 = .int .i64 party ∧ s.t 5 = .int .u8 u ∧ s.t 6 = ptr nx 0 ∧ s.t 7 = ptr (nx + 1) 0 ∧ s.t 9 = ptr (nx + 2) 0 ∧ s.t 13 = ptr (nx + 3) 0 ∧
    (∃ ka kb : Nat, s.t 14 = ptr ka 0 ∧ s.t 16 = ptr kb 0 ∧ s.H ka = some (newV party key).1.cells ∧ s.H kb = some (newV (within party 10 - 1) key).1.cells) ∧
    s.t 15 = .int .i64 (newV party key).2 ∧ s.t 17 = .int .i64 (newV (within party 10 - 1) key).2 ∧
    s.H nx = some raw.cells ∧ s.H (nx + 1) = some p.cells ∧ s.H (nx + 2) = some key.cells ∧ (∃ at' : Int, 0 ≤ at' ∧ s.H (nx + 3) = some (dk l at')) ∧ s.H g = some bitsRow ∧ nx + 3 < s.nx
theorem steps_j6 {P : Program} {aw e wi sa co tu tc nm nx_ re rr va ra g nx : Nat} (haw : Aw27OK P aw g) (hwi : WithinOK P wi) (hsa : SameCnOK P sa) (hco : ∀ key : Tag, Draws P co [key.v] (isCon key)) (hnm : Draws P nm [] isN) (hn : NextW P nx_) (hre : RegOK P re g) (hrr : RRegOK P rr) (hva : CnOK P va g) (hra : RCnOK P ra)
    {raw : Con} {p : Per} {key : Tag} {l : List Int} {u party : Int} (hu : 0 ≤ u ∧ u < 256) (hp : p.wf) (hl : l.length ≤ maxLen) (hraw : raw.fine) (hgn : g < nx) {s : PS}
    (hs : J6 raw p key party u l g nx s) (h18 : s.t 18 = .int .i64 (newV party key).2) {Q : Ex → PS → Prop}
    (hQ : ∀ s', s'.t 12 = .bool true → Q .rt s') : wpc (PCalls P) P (fun _ => False) nx (law27_ConcessionStepsC_j6 aw e wi sa co tu tc nm nx_ re rr va ra) Q s := by
  obtain ⟨T, H, n⟩ := s
  obtain ⟨h2, h5, h6, h7, h9, h13, ⟨ka, kb, h14, h16, hka, hkb⟩, h15, h17, hH0, hH1, hH2, hd, hg, hnx⟩ := hs
  simp only at h2 h5 h6 h7 h9 h13 h14 h15 h16 h17 h18 hka hkb hH0 hH1 hH2 hd hg hnx
  have tk : List.take 32 key.cells = key.cells := key.take32
  have hw0 := fun H nx => hwi party 10 (by omega) H nx
  have last : ∀ s : PS, s.t = T ∨ True → (s.t 5 = .int .u8 u ∧ s.t 6 = ptr nx 0 ∧ s.t 7 = ptr (nx + 1) 0 ∧ s.t 9 = ptr (nx + 2) 0 ∧ s.t 13 = ptr (nx + 3) 0 ∧ s.H = H ∧ n ≤ s.nx) → wpc (PCalls P) P (fun _ => False) nx (law27_ConcessionStepsC_j5 aw e sa co tu tc nm nx_ re rr va ra) Q s := by
    rintro ⟨T2, H2, n2⟩ _ ⟨q5, q6, q7, q9, q13, rfl, qn⟩
    exact steps_j5 haw hsa hco hnm hn hre hrr hva hra hu hp hl hraw hgn q5 q6 q7 q9 q13 hH0 hH1 hH2 hd hg (by show nx + 3 < n2; simp only at qn; omega) hQ
  generalize within party 10 = w at hkb h17 hw0
  by_cases hr : 0 ≤ party ∧ party ≤ 7
  · have e1 : newV party key = (⟨party, key, []⟩, 0) := by rw [newV, if_pos hr]
    rw [e1] at hka h15 h18
    have hcc : ag (Value.int .i64 party :: (key.cells ++ [deep []])) = (⟨party, key, []⟩ : Con).v := rfl
    simp [law27_ConcessionStepsC_j6, h2, h9, h14, h15, h18, hka, hH2, tk, Con.ag, hcc, -List.reduceReplicate]
    refine wCall_eq (Q := fun r => r = .bool true) (hsa ⟨party, key, []⟩ (by simp) _ _) fun r n1 hr1 hn1 => ?_
    subst hr1
    by_cases hb : 1 ≤ w ∧ w ≤ 8
    · have e2 : newV (w - 1) key = (⟨w - 1, key, []⟩, 0) := by rw [newV, if_pos (by omega)]
      rw [e2] at hkb h17
      simp [h2, h17]
      refine wCall_eq (Q := fun r => r = .int .i64 w) (hw0 _ _) fun r n2 hr2 hn2 => ?_
      subst hr2
      simp [hb.1, h2]
      refine wCall_eq (Q := fun r => r = .int .i64 w) (hw0 _ _) fun r n3 hr3 hn3 => ?_
      subst hr3
      simp at hn1 hn2 hn3
      simp [hb.2, h16, hkb, show ¬ 7 < w - 1 by omega]
      exact last _ (.inr trivial) ⟨by simp [h5], by simp [h6], by simp [h7], by simp [h9], by simp [h13], rfl, by simp; omega⟩
    · have e2 : newV (w - 1) key = (con0, 1) := by rw [newV, if_neg (by omega)]
      rw [e2] at hkb h17
      have hp0 : con0.party = 0 := rfl
      simp [h2, h17]
      refine wCall_eq (Q := fun r => r = .int .i64 w) (hw0 _ _) fun r n2 hr2 hn2 => ?_
      subst hr2
      by_cases hb1 : 1 ≤ w
      · simp [hb1, h2]
        refine wCall_eq (Q := fun r => r = .int .i64 w) (hw0 _ _) fun r n3 hr3 hn3 => ?_
        subst hr3
        simp at hn1 hn2 hn3
        simp [show ¬ w ≤ 8 by omega, h16, hkb, hp0]
        exact last _ (.inr trivial) ⟨by simp [h5], by simp [h6], by simp [h7], by simp [h9], by simp [h13], rfl, by simp; omega⟩
      · simp at hn1 hn2
        simp [hb1, h16, hkb, hp0]
        exact last _ (.inr trivial) ⟨by simp [h5], by simp [h6], by simp [h7], by simp [h9], by simp [h13], rfl, by simp; omega⟩
  · have e1 : newV party key = (con0, 1) := by rw [newV, if_neg hr]
    rw [e1] at hka h15 h18
    by_cases hb : 1 ≤ w ∧ w ≤ 8
    · have e2 : newV (w - 1) key = (⟨w - 1, key, []⟩, 0) := by rw [newV, if_pos (by omega)]
      rw [e2] at hkb h17
      simp [law27_ConcessionStepsC_j6, h2, h15, h17, h18]
      refine wCall_eq (Q := fun r => r = .int .i64 w) (hw0 _ _) fun r n2 hr2 hn2 => ?_
      subst hr2
      simp [hb.1, h2]
      refine wCall_eq (Q := fun r => r = .int .i64 w) (hw0 _ _) fun r n3 hr3 hn3 => ?_
      subst hr3
      simp at hn2 hn3
      simp [hb.2, h16, hkb, show ¬ 7 < w - 1 by omega]
      exact last _ (.inr trivial) ⟨by simp [h5], by simp [h6], by simp [h7], by simp [h9], by simp [h13], rfl, by simp; omega⟩
    · have e2 : newV (w - 1) key = (con0, 1) := by rw [newV, if_neg (by omega)]
      rw [e2] at hkb h17
      have hp0 : con0.party = 0 := rfl
      simp [law27_ConcessionStepsC_j6, h2, h15, h17, h18]
      refine wCall_eq (Q := fun r => r = .int .i64 w) (hw0 _ _) fun r n2 hr2 hn2 => ?_
      subst hr2
      by_cases hb1 : 1 ≤ w
      · simp [hb1, h2]
        refine wCall_eq (Q := fun r => r = .int .i64 w) (hw0 _ _) fun r n3 hr3 hn3 => ?_
        subst hr3
        simp at hn2 hn3
        simp [show ¬ w ≤ 8 by omega, h16, hkb, hp0]
        exact last _ (.inr trivial) ⟨by simp [h5], by simp [h6], by simp [h7], by simp [h9], by simp [h13], rfl, by simp; omega⟩
      · simp at hn2
        simp [hb1, h16, hkb, hp0]
        exact last _ (.inr trivial) ⟨by simp [h5], by simp [h6], by simp [h7], by simp [h9], by simp [h13], rfl, by simp; omega⟩
theorem steps_j7 {P : Program} {aw e wi sa co tu tc nm nx_ re rr va ra g nx : Nat} (haw : Aw27OK P aw g) (hwi : WithinOK P wi) (hsa : SameCnOK P sa) (hco : ∀ key : Tag, Draws P co [key.v] (isCon key)) (hnm : Draws P nm [] isN) (hn : NextW P nx_) (hre : RegOK P re g) (hrr : RRegOK P rr) (hva : CnOK P va g) (hra : RCnOK P ra)
    {raw : Con} {p : Per} {key : Tag} {l : List Int} {u party : Int} (hu : 0 ≤ u ∧ u < 256) (hp : p.wf) (hl : l.length ≤ maxLen) (hraw : raw.fine) (hgn : g < nx) {s : PS}
    (hs : J6 raw p key party u l g nx s) {Q : Ex → PS → Prop}
    (hQ : ∀ s', s'.t 12 = .bool true → Q .rt s') : wpc (PCalls P) P (fun _ => False) nx (law27_ConcessionStepsC_j7 aw e wi sa co tu tc nm nx_ re rr va ra) Q s := by
  obtain ⟨T, H, n⟩ := s
  obtain ⟨h2, h5, h6, h7, h9, h13, ⟨ka, kb, h14, h16, hka, hkb⟩, h15, h17, hH0, hH1, hH2, hd, hg, hnx⟩ := hs
  simp only at h2 h5 h6 h7 h9 h13 h14 h15 h16 h17 hka hkb hH0 hH1 hH2 hd hg hnx
  by_cases h0 : party < 0
  · have e1 : (newV party key).2 = 1 := by rw [newV, if_neg (by omega)]
    simp [law27_ConcessionStepsC_j7, h2, h0]
    refine steps_j6 haw hwi hsa hco hnm hn hre hrr hva hra hu hp hl hraw hgn ⟨by simp [h2], by simp [h5], by simp [h6], by simp [h7], by simp [h9], by simp [h13], ⟨ka, kb, by simp [h14], by simp [h16], hka, hkb⟩, by simp [h15], by simp [h17], hH0, hH1, hH2, hd, hg, hnx⟩ (by simp [e1]) hQ
  · by_cases h8 : 7 < party
    · have e1 : (newV party key).2 = 1 := by rw [newV, if_neg (by omega)]
      simp [law27_ConcessionStepsC_j7, h2, h0, h8]
      refine steps_j6 haw hwi hsa hco hnm hn hre hrr hva hra hu hp hl hraw hgn ⟨by simp [h2], by simp [h5], by simp [h6], by simp [h7], by simp [h9], by simp [h13], ⟨ka, kb, by simp [h14], by simp [h16], hka, hkb⟩, by simp [h15], by simp [h17], hH0, hH1, hH2, hd, hg, hnx⟩ (by simp [e1]) hQ
    · have e1 : (newV party key).2 = 0 := by rw [newV, if_pos (by omega)]
      simp [law27_ConcessionStepsC_j7, h2, h0, h8]
      refine steps_j6 haw hwi hsa hco hnm hn hre hrr hva hra hu hp hl hraw hgn ⟨by simp [h2], by simp [h5], by simp [h6], by simp [h7], by simp [h9], by simp [h13], ⟨ka, kb, by simp [h14], by simp [h16], hka, hkb⟩, by simp [h15], by simp [h17], hH0, hH1, hH2, hd, hg, hnx⟩ (by simp [e1]) hQ
set_option maxHeartbeats 4000000 in
theorem csteps_ok {P : Program} {f aw nw ne e wi sa co tu tc nm nx_ re rr va ra g : Nat} (hcf : compFn P f = some (180, law27_ConcessionStepsC aw nw ne e wi sa co tu tc nm nx_ re rr va ra, [.t 12])) (haw : Aw27OK P aw g) (hnw : NewOK P nw) (hne : NewCOK P ne) (hwi : WithinOK P wi) (hsa : SameCnOK P sa)
    (hco : ∀ key : Tag, Draws P co [key.v] (isCon key)) (hnm : Draws P nm [] isN) (hn : NextW P nx_) (hre : RegOK P re g) (hrr : RRegOK P rr) (hva : CnOK P va g) (hra : RCnOK P ra)
    (raw : Con) (p : Per) (party : Int) (key : Tag) (l : List Int) (u : Int) (hu : 0 ≤ u ∧ u < 256) (hp : p.wf) (hl : l.length ≤ maxLen) (hraw : ∀ x ∈ raw.ps, x.wf) (H : Nat → Option (List Value)) (nx : Nat) (hg : H g = some bitsRow) (hgn : g < nx) :
    PCalls P f [raw.v, p.v, .int .i64 party, key.v, deep (l.map (.int .i64)), .int .u8 u] H nx (fun _ => False) (fun r H' _ => r = .bool true) := by
  refine PCalls_of hcf (by simp) fun hw => ?_
  have hmx : (maxLen : Int) = 9223372036854775807 := rfl
  have tk : List.take 32 key.cells = key.cells := key.take32
  have g0 : ¬ g = nx := by omega
  have g1 : ¬ g = nx + 1 := by omega
  have g2 : ¬ g = nx + 1 + 1 := by omega
  have d1 : ¬ nx = nx + 1 + 1 := by omega
  have d2 : ¬ nx + 1 + 1 = nx := by omega
  have d3 : ¬ nx + 1 = nx + 1 + 1 := by omega
  have d4 : ¬ nx + 1 + 1 = nx + 1 := by omega
  by_cases h80 : raw.ps.length ≤ 80
  case neg =>
    simp [law27_ConcessionStepsC, d1, d2, d3, d4, show (80 : Int) < raw.ps.length by omega, -List.reduceReplicate]
    refine wCall_eq (Q := fun r => r = .bool true) (haw _ _ (by simp [g0, g1, g2, hg]) (by simp; omega)) fun r n5 hr hn5 => ?_
    subst hr
    simp
    exact wF_of rfl
  simp [law27_ConcessionStepsC, law27_ConcessionStepsC_j8, d1, d2, d3, d4, show ¬ (80 : Int) < raw.ps.length by omega, -List.reduceReplicate]
  refine wCall_le (hnw l _ _) fun r H1 n1 hR hn1 hown => ?_
  obtain ⟨rfl, rfl, rfl⟩ := hR
  clear hn1 hown
  have g3 : ¬ g = nx + 1 + 1 + 1 := by omega
  have f1 : ¬ nx = nx + 1 + 1 + 1 := by omega
  have f2 : ¬ nx + 1 = nx + 1 + 1 + 1 := by omega
  have f3 : ¬ nx + 1 + 1 = nx + 1 + 1 + 1 := by omega
  have f4 : ¬ nx + 1 + 1 + 1 = nx := by omega
  have f5 : ¬ nx + 1 + 1 + 1 = nx + 1 := by omega
  have f6 : ¬ nx + 1 + 1 + 1 = nx + 1 + 1 := by omega
  simp [d1, d2, d3, d4, f1, f2, f3, f4, f5, f6, tk, -List.reduceReplicate]
  refine wCall_eq (Q := fun r => r = tup [(newV party key).1.v, .int .i64 (newV party key).2]) (hne party key _ _) fun r n1 hr hn1 => ?_
  subst hr
  simp at hn1
  have e1 : ¬ nx = n1 := by omega
  have e2 : ¬ nx + 1 = n1 := by omega
  have e3 : ¬ nx + 1 + 1 = n1 := by omega
  have e4 : ¬ nx + 1 + 1 + 1 = n1 := by omega
  have e5 : ¬ g = n1 := by omega
  have m1 : ¬ nx = n1 + 1 := by omega
  have m2 : ¬ nx + 1 = n1 + 1 := by omega
  have m3 : ¬ nx + 1 + 1 = n1 + 1 := by omega
  have m4 : ¬ nx + 1 + 1 + 1 = n1 + 1 := by omega
  have m5 : ¬ g = n1 + 1 := by omega
  have m6 : ¬ n1 = n1 + 1 := by omega
  have le1 : nx ≤ n1 := by omega
  have le2 : nx ≤ n1 + 1 := by omega
  have hwr := within_range (x := party) (n := 10) (by omega) (by omega)
  have hww := w64 (x := within party 10 - 1) (by omega) (by omega)
  simp [d1, d2, d3, d4, f1, f2, f3, f4, f5, f6, e1, e2, e3, e4, m1, m2, m3, m4, m6, le1, le2, tk, -List.reduceReplicate]
  have stpW : ∀ {d : Option Nat} {s : PS} {K : PS → Prop}, (∀ n5, s.nx ≤ n5 → K ⟨(s.putO d (.int .i64 (within party 10))).t, s.H, n5⟩) → wCall (PCalls P) (fun _ => False) nx wi [.int .i64 party, .int .i64 10] d s K :=
    fun {d s K} hK => wCall_eq (Q := fun r => r = .int .i64 (within party 10)) (hwi party 10 (by omega) s.H s.nx) fun r n5 hr hn5 => by subst hr; exact hK n5 hn5
  have stpN : ∀ {d : Option Nat} {s : PS} {K : PS → Prop}, (∀ n6, s.nx ≤ n6 → K ⟨(s.putO d (tup [(newV (within party 10 - 1) key).1.v, .int .i64 (newV (within party 10 - 1) key).2])).t, s.H, n6⟩) → wCall (PCalls P) (fun _ => False) nx ne [.int .i64 (within party 10 - 1), ag key.cells] d s K :=
    fun {d s K} hK => wCall_eq (Q := fun r => r = tup [(newV (within party 10 - 1) key).1.v, .int .i64 (newV (within party 10 - 1) key).2]) (hne (within party 10 - 1) key s.H s.nx) fun r n6 hr hn6 => by subst hr; exact hK n6 hn6
  repeat' first
    | refine And.intro ?_ ?_
    | omega
    | (refine stpW fun n5 hn5 => ?_; dsimp only at hn5; simp [d1, d2, d3, d4, f1, f2, f3, f4, f5, f6, e1, e2, e3, e4, m1, m2, m3, m4, m6, le1, le2, tk, hww, show ¬ nx = n5 by omega, show ¬ nx + 1 = n5 by omega, show ¬ nx + 1 + 1 = n5 by omega, show ¬ nx + 1 + 1 + 1 = n5 by omega, show ¬ n1 = n5 by omega, show ¬ g = n5 by omega, show nx ≤ n5 by omega, -List.reduceReplicate])
    | (refine stpN fun n6 hn6 => ?_; dsimp only at hn6; simp [d1, d2, d3, d4, f1, f2, f3, f4, f5, f6, e1, e2, e3, e4, m1, m2, m3, m4, m6, le1, le2, tk, hww, show ¬ nx = n6 by omega, show ¬ nx + 1 = n6 by omega, show ¬ nx + 1 + 1 = n6 by omega, show ¬ nx + 1 + 1 + 1 = n6 by omega, show ¬ n1 = n6 by omega, show ¬ g = n6 by omega, show nx ≤ n6 by omega, -List.reduceReplicate])
  all_goals
    have q2 : nx + 2 = nx + 1 + 1 := rfl
    have q3 : nx + 3 = nx + 1 + 1 + 1 := rfl
    have x5a : ¬ nx = n5 := by omega
    have x5b : ¬ nx + 1 = n5 := by omega
    have x5c : ¬ nx + 1 + 1 = n5 := by omega
    have x5d : ¬ nx + 1 + 1 + 1 = n5 := by omega
    have x5e : ¬ n1 = n5 := by omega
    have x5f : ¬ g = n5 := by omega
    have x6a : ¬ nx = n6 := by omega
    have x6b : ¬ nx + 1 = n6 := by omega
    have x6c : ¬ nx + 1 + 1 = n6 := by omega
    have x6d : ¬ nx + 1 + 1 + 1 = n6 := by omega
    have x6e : ¬ n1 = n6 := by omega
    have x6f : ¬ g = n6 := by omega
    refine steps_j7 haw hwi hsa hco hnm hn hre hrr hva hra (raw := raw) (p := p) (key := key) (l := l) (u := u) (party := party) hu hp hl ⟨hraw, by omega⟩ hgn ⟨by simp, by simp, by simp, by simp, by simp [q2], by simp [q3], ⟨n1, _, by simp, rfl, by simp [d1, d2, d3, d4, f1, f2, f3, f4, f5, f6, e1, e2, e3, e4, m1, m2, m3, m4, m6, le1, le2, tk, hww, e5, m5, g0, g1, g2, g3, x5e, x6e], by simp⟩, by simp, by simp, by simp [d1, d2, d3, d4, f1, f2, f3, f4, f5, f6, e1, e2, e3, e4, m1, m2, m3, m4, m6, le1, le2, tk, hww, e5, m5, g0, g1, g2, g3, x5a, x6a], by simp [d1, d2, d3, d4, f1, f2, f3, f4, f5, f6, e1, e2, e3, e4, m1, m2, m3, m4, m6, le1, le2, tk, hww, e5, m5, g0, g1, g2, g3, x5b, x6b], by simp [q2, d1, d2, d3, d4, f1, f2, f3, f4, f5, f6, e1, e2, e3, e4, m1, m2, m3, m4, m6, le1, le2, tk, hww, e5, m5, g0, g1, g2, g3, x5c, x6c], ⟨0, by omega, by simp [q3, d1, d2, d3, d4, f1, f2, f3, f4, f5, f6, e1, e2, e3, e4, m1, m2, m3, m4, m6, le1, le2, tk, hww, e5, m5, g0, g1, g2, g3, x5d, x6d]⟩, by simp [d1, d2, d3, d4, f1, f2, f3, f4, f5, f6, e1, e2, e3, e4, m1, m2, m3, m4, m6, le1, le2, tk, hww, e5, m5, g0, g1, g2, g3, x5f, x6f, hg], by simp; omega⟩ (fun s' h => by obtain ⟨T', H', n'⟩ := s'; simp only at h; simp [h]; exact wF_of rfl)
end Go.PE
namespace Go.PE
open Go
theorem per_of {P : Program} {t : Nat} (h : ∃ fs, P.underlying t = some (.struct fs)) (hf : flat P 4 t = some [.str, .int .i64]) {cs : List Value} (hp : PTy P t cs) : ∃ q : Per, toV P t cs = q.v ∧ q.wf := by
  obtain ⟨fs, h⟩ := h
  obtain ⟨v1, w1, rfl, ⟨s, rfl, hs⟩, k1⟩ := fk_cons (flat_ok 4 t _ cs hf hp)
  obtain ⟨v2, w2, rfl, ⟨b, rfl, _, _⟩, k2⟩ := fk_cons k1
  obtain rfl := fk_nil k2
  refine ⟨⟨s, b⟩, toV_ag h _, ?_⟩
  have := max_len; show (s.size : Int) ≤ _; omega
theorem con_of {P : Program} {t p : Nat} (hpp : ∃ fs, P.underlying p = some (.struct fs)) (hpf : flat P 4 p = some [.str, .int .i64])
    (h : ∃ fs, P.underlying t = some (.struct fs)) (hf : flat P 4 t = some ([.int .i64] ++ (List.replicate 32 (.int .u8) ++ [.sl p]))) {cs : List Value} (hp : PTy P t cs) :
    ∃ c : Con, toV P t cs = c.v ∧ ∀ x ∈ c.ps, x.wf := by
  obtain ⟨fs, h⟩ := h
  obtain ⟨_, w0, rfl, ⟨g, rfl, _, _⟩, k0⟩ := fk_cons (flat_ok 4 t _ cs hf hp)
  obtain ⟨a, b, rfl, h1, h2⟩ := fk_append (l := List.replicate 32 (.int .u8)) (ks := [.sl p]) k0
  obtain ⟨l, rfl, hl2⟩ := fk_rep h1
  obtain ⟨_, w5, rfl, ⟨ys, rfl, hy, hx⟩, k5⟩ := fk_cons h2
  obtain rfl := fk_nil k5
  obtain ⟨ps, e1, e2, e3⟩ := elems_of Per.v Per.wf (fun x hx => per_of hpp hpf hx) ys hx
  rw [e1]
  exact ⟨⟨g, ⟨l, hl2⟩, ps⟩, toV_ag h _, e3⟩
end Go.PE
