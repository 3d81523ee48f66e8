/- Draw regions: what the abstract machine evaluates in the text's order, the program does in whichever order is drawn. -/
import Derived.Test.YtgklpnendmhbjaaGreatDoorA3
import Derived.Orders
import Derived.RangeFuncRecord
import Derived.AtR
set_option linter.unusedSimpArgs false
set_option linter.unusedVariables false
set_option linter.unusedSectionVars false
set_option linter.unnecessarySimpa false
section
namespace Am
open Go Go.Lib

/-! ### the text's run -/

def lowerS (s r : St) : St :=
  { r with h := { r.h with base := s.h.base, sbase := s.h.sbase, t := filt s.h.base s.h.sbase r.h.t ++ s.h.t, w := filt s.h.base s.h.sbase r.h.w ++ s.h.w } }

def logW' (s r : St) : List Loc := ownL s.h r.h ++ r.h.w
def logT' (s r : St) : List Loc := ownL s.h r.h ++ r.h.w ++ r.h.t

structure Txt (Q : AProg) (K : CallF) (rnd : Option Nat) (as : List AOper) (σ ρ : Nat → St) : Prop where
  run : ∀ j o, as[j]? = some o → evalOper Q K rnd o { σ j with h := enterH (σ j).h } = some (ρ j)
  next : ∀ j, j < as.length → σ (j + 1) = lowerS (σ j) (ρ j)
  conf : ∀ j o i, as[j]? = some o → i ∈ o.conf → i < j ∧ disj (logW' (σ j) (ρ j)) (logT' (σ i) (ρ i)) = true ∧ disj (logW' (σ i) (ρ i)) (logT' (σ j) (ρ j)) = true

theorem evalDraw_txt {Q : AProg} {K : CallF} {rnd : Option Nat} : ∀ (os : List AOper) (fs : List (List Loc × List Loc)) (s s' : St), evalDraw Q K rnd os fs s = some s' →
    ∃ σ ρ : Nat → St, σ 0 = s ∧ σ os.length = s' ∧ (∀ j o, os[j]? = some o → evalOper Q K rnd o { σ j with h := enterH (σ j).h } = some (ρ j)) ∧
      (∀ j, j < os.length → σ (j + 1) = lowerS (σ j) (ρ j)) ∧
      ∀ j o i, os[j]? = some o → i ∈ o.conf → ∃ t w, (fs ++ (List.range j).map fun i => (logT' (σ i) (ρ i), logW' (σ i) (ρ i)))[i]? = some (t, w) ∧
        disj (logW' (σ j) (ρ j)) t = true ∧ disj w (logT' (σ j) (ρ j)) = true
  | [], fs, s, s', e => by
    cases e
    exact ⟨fun _ => s, fun _ => s, rfl, rfl, fun j o h => by simp at h, fun j h => by simp at h, fun j o i h => by simp at h⟩
  | o :: os, fs, s, s', e => by
    simp only [evalDraw] at e
    split at e
    · cases e
    · rename_i s1 h1
      split at e
      · rename_i hc
        obtain ⟨σ, ρ, k0, k1, k2, k3, k4⟩ := evalDraw_txt os _ _ _ e
        refine ⟨fun j => match j with | 0 => s | j + 1 => σ j, fun j => match j with | 0 => s1 | j + 1 => ρ j, rfl, k1, ?_, ?_, ?_⟩
        · intro j o' hj
          cases j with
          | zero => simp only [List.getElem?_cons_zero, Option.some.injEq] at hj; subst hj; exact h1
          | succ j => simp only [List.getElem?_cons_succ] at hj; exact k2 j o' hj
        · intro j hj
          cases j with
          | zero => exact k0
          | succ j => exact k3 j (by simpa using hj)
        · intro j o' i hj hi
          cases j with
          | zero =>
            simp only [List.getElem?_cons_zero, Option.some.injEq] at hj; subst hj
            have := List.all_eq_true.1 hc i hi
            simp only [List.range_zero, List.map_nil, List.append_nil]
            split at this
            · rename_i t w hf
              simp only [Bool.and_eq_true] at this
              exact ⟨t, w, hf, this⟩
            · cases this
          | succ j =>
            simp only [List.getElem?_cons_succ] at hj
            obtain ⟨t, w, hf, hd⟩ := k4 j o' i hj hi
            refine ⟨t, w, ?_, hd⟩
            rw [← hf, List.range_succ_eq_map, List.map_cons, List.map_map, List.append_assoc]
            rfl
      · cases e

theorem txt_of {Q : AProg} {K : CallF} {rnd : Option Nat} {os : List AOper} {s s' : St} (e : evalDraw Q K rnd os [] s = some s') :
    ∃ σ ρ : Nat → St, σ 0 = s ∧ σ os.length = s' ∧ Txt Q K rnd os σ ρ := by
  obtain ⟨σ, ρ, k0, k1, k2, k3, k4⟩ := evalDraw_txt os [] s s' e
  refine ⟨σ, ρ, k0, k1, k2, k3, fun j o i hj hi => ?_⟩
  obtain ⟨t, w, hf, hd⟩ := k4 j o i hj hi
  simp only [List.nil_append, List.getElem?_map, Option.map_eq_some_iff, List.getElem?_range] at hf
  obtain ⟨a, ha, hb⟩ := hf
  have hlt : i < j := by
    rcases Nat.lt_or_ge i j with h | h
    · exact h
    · simp [List.getElem?_eq_none, h] at ha
  rw [List.getElem?_range hlt] at ha
  cases ha
  cases hb
  exact ⟨hlt, hd⟩

/-! ### what one operation looks at -/

def maskE (ns : List Nat) (e : Env) : Env := (List.range e.length).map fun i => if ns.contains i then e.get i else .junk

theorem maskE_get (ns : List Nat) (e : Env) (d : Nat) : (maskE ns e).get d = if ns.contains d then e.get d else .junk := by
  simp only [maskE, Env.get, List.getD_eq_getElem?_getD, List.getElem?_map]
  by_cases h : d < e.length
  · simp [List.getElem?_range h]
  · simp [List.getElem?_eq_none (Nat.le_of_not_lt h), List.getElem?_eq_none (l := List.range e.length) (by simpa using h)]

theorem evalOper_congr {Q : AProg} {K : CallF} {rnd : Option Nat} {o : AOper} {e e' : Env} {ds : List AD} {h : Heap} {s1 : St} (hnd : isDefer o.op = false)
    (he : ∀ d ∈ o.names, e.get d = e'.get d) (r : evalOper Q K rnd o ⟨e, ds, h⟩ = some s1) :
    ∃ v, s1.env = setDst e o.dst v ∧ s1.ds = ds ∧ evalOper Q K rnd o ⟨e', ds, h⟩ = some ⟨setDst e' o.dst v, ds, s1.h⟩ := by
  have hx : ∀ x ∈ o.op.aos, x.ev e = x.ev e' := by
    intro x hx
    cases x with
    | t i => exact he i (by simp only [AOper.names, List.mem_append, List.mem_filterMap]; exact .inl ⟨.t i, hx, rfl⟩)
    | c v => rfl
  have hw : wantedA e o.guard = wantedA e' o.guard := by
    cases hg : o.guard with
    | none => rfl
    | some g =>
      obtain ⟨d, want⟩ := g
      simp only [wantedA]
      rw [he d (by simp [AOper.names, hg])]
  unfold evalOper at r ⊢
  simp only [hw] at r ⊢
  split at r
  · cases r
  · cases r; exact ⟨.tup [], rfl, rfl, rfl⟩
  · split at r
    · rename_i hop; rw [hop] at hnd; simp [isDefer] at hnd
    · rename_i hop
      rw [opA_congr hx] at r
      split at r
      · rename_i v h' hA
        cases r
        refine ⟨v, rfl, rfl, ?_⟩
        simp only [hA]
      · cases r

section
variable {P : Program} {G : Nat} {T W : Loc → Prop} {M M' : Mp} {w w' : World}

/-- one operation that defers nothing -/
theorem oper_nd {Q : AProg} {K : CallF} (hK : KOk P Q.G K) {nt : Nat} {ops : Array Oper} {i : Nat} {rest : List Nat} {o : Oper} {ao : AOper} (ho : ops[i]? = some o) (t : TrO P nt ops o ao)
    (hnd : isDefer ao.op = false) {rnd : Option Nat} {b : Frame} {s s' : St} {a : Act} (g : Good P Q.G T M s.h w) (he : ERel P Q.G M s.env a.tmps) (hs : a.tmps.size = nt)
    (e : evalOper Q K rnd ao s = some s') (cv : Cov T W s'.h) (k : List Item) (cs : List Frame) :
    ∃ M' w' v c, Good P Q.G T M' s'.h w' ∧ s'.env = setDst s.env ao.dst v ∧ VRel P Q.G M' v c ∧ Stp W M w M' w' ∧
      FS P cs b a (.inRegion ops (i :: rest) :: k) w (a.put o.dst c) (.inRegion ops rest :: k) w' := by
  unfold evalOper at e
  split at e
  · cases e
  · rename_i hw
    have hw := wanted_ok t he hs hw
    cases e
    refine ⟨M, w, .tup [], undef, g, rfl, LRel.nil.tup, .refl W M w, .one ?_⟩
    have := st_op_skip (P := P) (b := b) (a := a) (k := k) (cs := cs) (w := w) (ops := ops) (i := i) (rest := rest) (by rw [ho]; simpa using hw)
    rw [ho] at this
    exact this
  · rename_i hw
    have hw := wanted_ok t he hs hw
    obtain ⟨own, hop⟩ := t.op
    split at e
    · rename_i hax; rw [hax] at hnd; simp [isDefer] at hnd
    · rename_i hnd'
      split at e
      · rename_i v h' hA
        cases e
        have hbad : ao.op ≠ .bad := by rintro hbd; rw [hbd] at hA; simp [opA] at hA
        have htr : trOp P own o = some ao.op := by
          cases ht : trOp P own o with
          | none => rw [ht] at hop; exact absurd hop hbad
          | some y => rw [ht] at hop; exact congrArg some hop.symm
        obtain ⟨c, w', M', h1, h2, h3, h4⟩ := op_ok (X := ⟨fat b a (.inRegion ops (i :: rest) :: k), cs, rfl⟩) hK g he htr hA cv
        have hdefer : ∀ c, o.op ≠ .defer c := by
          intro c hc
          simp only [trOp, hc] at htr
          split at htr
          · obtain ⟨x', _, htr⟩ := bind_some htr
            obtain ⟨as', _, htr⟩ := bind_some htr
            simp only [Option.some.injEq] at htr
            exact hnd' _ _ htr.symm
          · cases htr
        exact ⟨M', w', v, c, h2, rfl, h4, h3, st_op ho hw (.inr hdefer) h1⟩
      · cases e
end

/-! ### the text's states -/

section
variable {Q : AProg} {K : CallF} {rnd : Option Nat} {as : List AOper} {σ ρ : Nat → St}

theorem mem_own_b {h h' : Heap} {n : Nat} (hn : h.nb ≤ h'.nb) : Loc.b n ∈ ownL h h' ↔ h.nb ≤ n ∧ n < h'.nb := by
  simp only [ownL, List.mem_append, List.mem_map, List.mem_range'_1, Loc.b.injEq, exists_eq_right, reduceCtorEq, and_false, exists_false, or_false]
  omega
theorem mem_own_s {h h' : Heap} {n : Nat} (hn : h.ns ≤ h'.ns) : Loc.s n ∈ ownL h h' ↔ h.ns ≤ n ∧ n < h'.ns := by
  simp only [ownL, List.mem_append, List.mem_map, List.mem_range'_1, Loc.s.injEq, exists_eq_right, reduceCtorEq, and_false, exists_false, false_or]
  omega

theorem disj_spec {a b : List Loc} (h : disj a b = true) {l : Loc} (ha : l ∈ a) : l ∉ b := by
  have := List.all_eq_true.1 h l ha
  simpa using this

theorem Txt.lt {j : Nat} (hj : j < as.length) : ∃ o, as[j]? = some o := ⟨as[j], by simp [hj]⟩

theorem Txt.fr (x : Txt Q K rnd as σ ρ) (hKF : KFr K) {j : Nat} (hj : j < as.length) : Fr (enterH (σ j).h) (ρ j).h := by
  obtain ⟨o, ho⟩ := Txt.lt hj
  exact evalOper_fr hKF (x.run j o ho)

theorem Txt.fr1 (x : Txt Q K rnd as σ ρ) (hKF : KFr K) {j : Nat} (hj : j < as.length) : Fr (σ j).h (σ (j + 1)).h := by
  rw [x.next j hj]
  exact Fr.lower (x.fr hKF hj)

theorem Txt.frs (x : Txt Q K rnd as σ ρ) (hKF : KFr K) (i : Nat) : ∀ (d : Nat), i + d ≤ as.length → Fr (σ i).h (σ (i + d)).h
  | 0, _ => .refl _
  | d + 1, h => (x.frs hKF i d (by omega)).trans (x.fr1 hKF (j := i + d) (by omega))

theorem Txt.fr' (x : Txt Q K rnd as σ ρ) (hKF : KFr K) {i j : Nat} (hij : i ≤ j) (hj : j ≤ as.length) : Fr (σ i).h (σ j).h := by
  have := x.frs hKF i (j - i) (by omega)
  rwa [show i + (j - i) = j by omega] at this

theorem Txt.nb1 (x : Txt Q K rnd as σ ρ) {j : Nat} (hj : j < as.length) : (σ (j + 1)).h.nb = (ρ j).h.nb := by rw [x.next j hj]; rfl
theorem Txt.ns1 (x : Txt Q K rnd as σ ρ) {j : Nat} (hj : j < as.length) : (σ (j + 1)).h.ns = (ρ j).h.ns := by rw [x.next j hj]; rfl
theorem Txt.get1 (x : Txt Q K rnd as σ ρ) {j : Nat} (hj : j < as.length) (n : Nat) : (σ (j + 1)).h.get n = (ρ j).h.get n := by rw [x.next j hj]; rfl
theorem Txt.slot1 (x : Txt Q K rnd as σ ρ) {j : Nat} (hj : j < as.length) (n : Nat) : (σ (j + 1)).h.slot n = (ρ j).h.slot n := by rw [x.next j hj]; rfl

theorem get_none {h : Heap} {n : Nat} (hn : h.nb ≤ n) : h.get n = none := by unfold Heap.get; rw [if_neg (by omega)]
theorem slot_none {h : Heap} (k : HOk h) {s : Nat} (hs : h.ns ≤ s) : h.slot s = none := by
  cases e : h.slot s with
  | none => rfl
  | some o => exact absurd (slot_lt k e) (by omega)

/-- what an operation does not write, stays -/
theorem Txt.keepb (x : Txt Q K rnd as σ ρ) (hKF : KFr K) {j n : Nat} (hj : j < as.length) (hn : Loc.b n ∉ logW' (σ j) (ρ j)) : (σ (j + 1)).h.get n = (σ j).h.get n := by
  have f := x.fr hKF hj
  simp only [logW', List.mem_append, not_or] at hn
  rw [mem_own_b (show (σ j).h.nb ≤ (ρ j).h.nb from f.nb)] at hn
  have hnb : (enterH (σ j).h).nb = (σ j).h.nb := rfl
  rw [x.get1 hj]
  rcases Nat.lt_or_ge n (σ j).h.nb with h | h
  · exact f.box n h h hn.2
  · rw [get_none h, get_none (by omega)]

theorem Txt.keeps (x : Txt Q K rnd as σ ρ) (hKF : KFr K) {j n : Nat} (hj : j < as.length) (hn : Loc.s n ∉ logW' (σ j) (ρ j)) (k : HOk (σ j).h) : (σ (j + 1)).h.slot n = (σ j).h.slot n := by
  have f := x.fr hKF hj
  simp only [logW', List.mem_append, not_or] at hn
  rw [mem_own_s (show (σ j).h.ns ≤ (ρ j).h.ns from f.ns)] at hn
  have hns : (enterH (σ j).h).ns = (σ j).h.ns := rfl
  rw [x.slot1 hj]
  rcases Nat.lt_or_ge n (σ j).h.ns with h | h
  · exact f.slot n h h hn.2
  · rw [slot_none k h, slot_none (f.ok ⟨k.len, k.live, Nat.le_refl _, Nat.le_refl _⟩) (by omega)]

end

/-! ### which operations stand in each other's way -/

def Bf (b : Array Nat) (i j : Nat) : Prop := i < j ∧ (b.getD j 0).testBit i = true

def dstAt (as : List AOper) (i : Nat) : Option Nat := (as[i]?).bind (·.dst)

/-- nothing that is done behind j, and nothing that is not done ahead of j, is such -/
def Clear (S : Nat → Bool) (n j : Nat) (wr : Nat → Prop) : Prop := ∀ i, i < n → (S i = true → j ≤ i → ¬ wr i) ∧ (S i = false → i < j → ¬ wr i)

section
variable {Q : AProg} {K : CallF} {rnd : Option Nat} {ops : Array Oper} {b : Array Nat} {as : List AOper} {σ ρ : Nat → St}

theorem drawOk_spec (h : drawOk ops b as = true) {j : Nat} (hj : j < as.length) (hl : as.length = ops.size) : ∃ o a, ops[j]? = some o ∧ as[j]? = some a ∧
    (∀ e ∈ o.after, Region.binds .any e = true → e.on < j) ∧ isDefer a.op = false ∧
    ∀ i, i < j → if (b.getD j 0).testBit i then ∃ e ∈ o.after, Region.binds .any e = true ∧ (e.on = i ∨ (i < e.on ∧ (b.getD e.on 0).testBit i = true))
      else ∃ a', as[i]? = some a' ∧ apartA a' a = true ∧ (loud a'.op = false ∨ loud a.op = false ∨ i ∈ a.conf) := by
  have h1 := List.all_eq_true.1 h j (by simpa using hj)
  have ha : as[j]? = some as[j] := by simp [hj]
  have ho : ops[j]? = some (ops[j]'(hl ▸ hj)) := by simp [hl ▸ hj]
  refine ⟨_, _, ho, ha, ?_⟩
  simp only [ho, ha, Bool.and_eq_true, List.all_eq_true, Bool.or_eq_true, Bool.not_eq_true', decide_eq_true_eq, List.mem_range] at h1
  obtain ⟨⟨h1, h2⟩, h3⟩ := h1
  refine ⟨fun e he hb => ?_, h2, fun i hi => ?_⟩
  · rcases h1 e (by simpa using he) with h | h
    · rw [hb] at h; cases h
    · exact h
  · have := h3 i hi
    split at this
    · rename_i hb
      rw [if_pos hb]
      simp only [List.any_eq_true, Bool.and_eq_true, Bool.or_eq_true, beq_iff_eq, decide_eq_true_eq] at this
      obtain ⟨e, he, h4, h5⟩ := this
      exact ⟨e, by simpa using he, h4, h5⟩
    · rename_i hb
      rw [if_neg hb]
      split at this
      · rename_i a' ha'
        simp only [Bool.and_eq_true, Bool.or_eq_true, Bool.not_eq_true', List.contains_iff_mem] at this
        exact ⟨a', ha', this.1, by
          rcases this.2 with (h | h) | h
          · exact .inl h
          · exact .inr (.inl h)
          · exact .inr (.inr h)⟩
      · cases this

theorem evalOper_quiet {o : AOper} {s s1 : St} (hd : isDefer o.op = false) (hq : loud o.op = false) (hr : evalOper Q K rnd o s = some s1) : s1.h = s.h := by
  unfold evalOper at hr
  split at hr
  · cases hr
  · cases hr; rfl
  · split at hr
    · rename_i hop; rw [hop] at hd; simp [isDefer] at hd
    · split at hr
      · rename_i hA; cases hr; exact quiet_heap hq hA
      · cases hr

theorem quiet_log (x : Txt Q K rnd as σ ρ) {j : Nat} {o : AOper} (hj : as[j]? = some o) (hd : isDefer o.op = false) (hq : loud o.op = false) : logT' (σ j) (ρ j) = [] ∧ logW' (σ j) (ρ j) = [] := by
  have hh : (ρ j).h = enterH (σ j).h := evalOper_quiet hd hq (x.run j o hj)
  have ho : ownL (σ j).h (enterH (σ j).h) = [] := by simp [ownL, enterH]
  have hw : (enterH (σ j).h).w = [] := rfl
  have ht : (enterH (σ j).h).t = [] := rfl
  simp [logT', logW', hh, ho, hw, ht]

theorem logW_T {s r : St} {l : Loc} (h : l ∈ logW' s r) : l ∈ logT' s r := by
  simp only [logW', logT', List.mem_append] at h ⊢
  exact .inl h

theorem indep_lt (x : Txt Q K rnd as σ ρ) (hd : drawOk ops b as = true) (hl : as.length = ops.size) {i k : Nat} (hik : i < k) (hk : k < as.length) (hn : ¬ Bf b i k) :
    (∀ l, l ∈ logW' (σ i) (ρ i) → l ∉ logT' (σ k) (ρ k)) ∧ (∀ l, l ∈ logW' (σ k) (ρ k) → l ∉ logT' (σ i) (ρ i)) ∧
    ∃ a a', as[i]? = some a ∧ as[k]? = some a' ∧ apartA a a' = true := by
  obtain ⟨o, a', ho, ha', _, h2, h3⟩ := drawOk_spec hd hk hl
  have := h3 i hik
  rw [if_neg fun h => hn ⟨hik, h⟩] at this
  obtain ⟨a, ha, h4, h5⟩ := this
  obtain ⟨_, a2, _, ha2, _, h2', _⟩ := drawOk_spec hd (Nat.lt_trans hik hk) hl
  rw [ha] at ha2; cases ha2
  refine ⟨?_, ?_, a, a', ha, ha', h4⟩
  · intro l hw
    rcases h5 with h5 | h5 | h5
    · rw [(quiet_log x ha h2' h5).2] at hw; cases hw
    · rw [(quiet_log x ha' h2 h5).1]; simp
    · exact disj_spec (x.conf k a' i ha' h5).2.2 hw
  · intro l hw
    rcases h5 with h5 | h5 | h5
    · rw [(quiet_log x ha h2' h5).1]; simp
    · rw [(quiet_log x ha' h2 h5).2] at hw; cases hw
    · exact disj_spec (x.conf k a' i ha' h5).2.1 hw

theorem indep (x : Txt Q K rnd as σ ρ) (hd : drawOk ops b as = true) (hl : as.length = ops.size) {i k : Nat} (hi : i < as.length) (hk : k < as.length) (hne : i ≠ k) (h1 : ¬ Bf b i k) (h2 : ¬ Bf b k i) :
    (∀ l, l ∈ logW' (σ i) (ρ i) → l ∉ logT' (σ k) (ρ k)) ∧ (∀ l, l ∈ logW' (σ k) (ρ k) → l ∉ logT' (σ i) (ρ i)) ∧
    (∀ a' d, as[k]? = some a' → dstAt as i = some d → d ∉ a'.names) ∧ (∀ d, dstAt as i = some d → dstAt as k ≠ some d) := by
  rcases Nat.lt_or_gt_of_ne hne with hlt | hgt
  · obtain ⟨k1, k2, a, a', ha, ha', hp⟩ := indep_lt x hd hl hlt hk h1
    simp only [apartA, Bool.and_eq_true] at hp
    refine ⟨k1, k2, fun a2 d h2 hdd => ?_, fun d hdd => ?_⟩
    · rw [ha'] at h2; cases h2
      simp only [dstAt, ha, Option.bind_some] at hdd
      have := hp.1
      simp only [hdd] at this
      simp at this
      exact this.1
    · simp only [dstAt, ha, Option.bind_some] at hdd
      have := hp.1
      simp only [hdd] at this
      simp at this
      simp only [dstAt, ha', Option.bind_some]
      exact this.2
  · obtain ⟨k1, k2, a, a', ha, ha', hp⟩ := indep_lt x hd hl hgt hi h2
    simp only [apartA, Bool.and_eq_true] at hp
    refine ⟨k2, k1, fun a2 d h2 hdd => ?_, fun d hdd => ?_⟩
    · rw [ha] at h2; cases h2
      simp only [dstAt, ha', Option.bind_some] at hdd
      have := hp.2
      simp only [hdd] at this
      simpa using this
    · simp only [dstAt, ha', Option.bind_some] at hdd
      intro h
      simp only [dstAt, ha, Option.bind_some] at h
      have := hp.1
      simp only [h] at this
      simp at this
      exact this.2 hdd
end

/-! ### the invariant -/

structure Inv (P : Program) (G : Nat) (T W : Loc → Prop) (as : List AOper) (σ ρ : Nat → St) (nt : Nat) (M0 : Mp) (w0 : World) (S : Nat → Bool) (M : Mp) (w : World) (tmps : Array Value) : Prop where
  mok : MOk G M w
  glob : Glob P M
  nb0 : M.nb = (σ 0).h.nb
  ns0 : M.ns = (σ 0).h.ns
  globlt : ∀ g, g < P.globals.size → g < (σ 0).h.nb
  size : tmps.size = nt
  st : Stp W M0 w0 M w
  fbox : ∀ n v, M.box n = some v → n < (σ 0).h.nb ∨ ∃ i, S i = true ∧ i < as.length ∧ (σ i).h.nb ≤ n ∧ n < (σ (i + 1)).h.nb
  fslot : ∀ s, M.slot s ≠ .unborn → s < (σ 0).h.ns ∨ ∃ i, S i = true ∧ i < as.length ∧ (σ i).h.ns ≤ s ∧ s < (σ (i + 1)).h.ns
  env : ∀ d j, j ≤ as.length → Clear S as.length j (fun i => dstAt as i = some d) → VRel P G (M.cut (σ j).h.nb (σ j).h.ns) ((σ j).env.get d) (tmps.getD d undef)
  boxes : ∀ n j o, j ≤ as.length → T (.b n) → Clear S as.length j (fun i => Loc.b n ∈ logW' (σ i) (ρ i)) → (σ j).h.get n = some o →
    ∃ v, (M.cut (σ j).h.nb (σ j).h.ns).box n = some v ∧ ORel P G (M.cut (σ j).h.nb (σ j).h.ns) w v o
  slots : ∀ s j o, j ≤ as.length → T (.s s) → Clear S as.length j (fun i => Loc.s s ∈ logW' (σ i) (ρ i)) → (σ j).h.slot s = some o →
    SRel P G (M.cut (σ j).h.nb (σ j).h.ns) w s o

/-- the map behind an operation, with what was there beyond -/
def Mp.merge (M M' : Mp) (B S : Nat) : Mp :=
  { nb := M.nb, ns := M.ns, box := fun n => if n < B then M'.box n else M.box n, slot := fun s => if s < S then M'.slot s else M.slot s, pin := M'.pin, sent := M'.sent }

section
variable {P : Program} {G : Nat} {T W W' : Loc → Prop} {M M' : Mp} {w w' : World}

/-- what stands above a cut, and what an operation under the cut has done -/
structure Under (G : Nat) (W : Loc → Prop) (M : Mp) (w : World) (M' : Mp) (w' : World) (B S B' S' : Nat) : Prop where
  mok : MOk G M w
  mok' : MOk G M' w'
  st : Stp W (M.cut B S) w M' w'
  hB : B ≤ B'
  hS : S ≤ S'
  nobox : ∀ n, B ≤ n → n < B' → M.box n = none
  noslot : ∀ s, S ≤ s → s < S' → M.slot s = .unborn
  fbox : ∀ n, B' ≤ n → M'.box n = none
  fslot : ∀ s, S' ≤ s → M'.slot s = .unborn

namespace Under
variable {B S B' S' : Nat}

theorem not_box (u : Under G W M w M' w' B S B' S') {n v : Nat} (hn : B' ≤ n) (hv : M.box n = some v) : ¬ OwnedBy W (M.cut B S) v := by
  rintro (⟨m, _, hm⟩ | ⟨s, r, _, hr, rfl⟩)
  · obtain ⟨h1, h2⟩ := Mp.cut_box hm
    have := u.mok.boxinj n m v hv h2
    have := u.hB
    omega
  · exact u.mok.slotbox s r n (Mp.cut_live hr).2 hv

theorem not_slot (u : Under G W M w M' w' B S B' S') {s : Nat} {r : SRef} (hs : S' ≤ s) (hr : M.slot s = .live r) : ¬ OwnedBy W (M.cut B S) r.b := by
  rintro (⟨m, _, hm⟩ | ⟨s', r', _, hr', e⟩)
  · exact u.mok.slotbox s r m hr (Mp.cut_box hm).2
  · obtain ⟨h1, h2⟩ := Mp.cut_live hr'
    have := u.mok.slotinj s' s r' r h2 hr e
    have := u.hS
    omega

theorem le (u : Under G W M w M' w' B S B' S') : M.Le (M.merge M' B' S') where
  box := fun n v hv => by
    simp only [Mp.merge]
    split
    · rename_i h
      have hlt : n < B := Classical.byContradiction fun hn => by rw [u.nobox n (by omega) h] at hv; cases hv
      exact u.st.le.box n v (by simp [Mp.cut, hlt, hv])
    · exact hv
  slot := fun s => by
    simp only [Mp.merge]
    split
    · rename_i h
      by_cases hlt : s < S
      · have := u.st.le.slot s
        simpa [Mp.cut, hlt] using this
      · rw [u.noslot s (by omega) h]; exact .unborn
    · exact .refl _
  pin := fun b o v hv => u.st.le.pin b o v hv
  sent := u.st.le.sent

theorem le' (u : Under G W M w M' w' B S B' S') : M'.Le (M.merge M' B' S') where
  box := fun n v hv => by
    have hlt : n < B' := Classical.byContradiction fun hn => by rw [u.fbox n (by omega)] at hv; cases hv
    simp only [Mp.merge, hlt, if_true]; exact hv
  slot := fun s => by
    simp only [Mp.merge]
    split
    · exact .refl _
    · rename_i h; rw [u.fslot s (by omega)]; exact .unborn
  pin := fun b o v hv => hv
  sent := rfl

theorem cut_le (u : Under G W M w M' w' B S B' S') {C D : Nat} (hC : B' ≤ C) (hD : S' ≤ D) : M'.Le ((M.merge M' B' S').cut C D) where
  box := fun n v hv => by
    have hlt : n < B' := Classical.byContradiction fun hn => by rw [u.fbox n (by omega)] at hv; cases hv
    have : n < C := by omega
    simp only [Mp.cut, this, if_true, Mp.merge, hlt]; exact hv
  slot := fun s => by
    by_cases h : s < S'
    · have : s < D := by omega
      simp only [Mp.cut, this, if_true, Mp.merge, h]
      exact .refl _
    · rw [u.fslot s (by omega)]; exact .unborn
  pin := fun b o v hv => hv
  sent := rfl

theorem mokM (u : Under G W M w M' w' B S B' S') : MOk G (M.merge M' B' S') w' where
  pins := u.mok'.pins
  boxlt := fun n v hv => by
    simp only [Mp.merge] at hv
    split at hv
    · exact u.mok'.boxlt n v hv
    · exact Nat.lt_of_lt_of_le (u.mok.boxlt n v hv) u.st.size
  boxinj := by
    have key : ∀ n n' v, n < B' → ¬ n' < B' → M'.box n = some v → M.box n' = some v → False := by
      intro n n' v h1 h2 hv hv'
      rcases u.st.extb n v hv with h | h
      · obtain ⟨h3, h4⟩ := Mp.cut_box h
        have := u.mok.boxinj n n' v h4 hv'
        omega
      · have := u.mok.boxlt n' v hv'
        omega
    intro n n' v hv hv'
    simp only [Mp.merge] at hv hv'
    split at hv <;> split at hv'
    · exact u.mok'.boxinj n n' v hv hv'
    · exact (key n n' v (by assumption) (by assumption) hv hv').elim
    · exact (key n' n v (by assumption) (by assumption) hv' hv).elim
    · exact u.mok.boxinj n n' v hv hv'
  boxpin := fun n v o hG hv => by
    simp only [Mp.merge] at hv ⊢
    split at hv
    · exact u.mok'.boxpin n v o hG hv
    · cases hp : M'.pin v o with
      | none => rfl
      | some x =>
        rcases u.st.extp v o x hp with h | h | ⟨s0, r0, _, h3, h4⟩
        · have h' : M.pin v o = some x := h
          rw [u.mok.boxpin n v o hG hv] at h'; cases h'
        · have := u.mok.boxlt n v hv
          omega
        · exact (u.mok.slotbox s0 r0 n (Mp.cut_live h3).2 (h4 ▸ hv)).elim
  boxobj := fun n v hv => by
    simp only [Mp.merge] at hv
    split at hv
    · exact u.mok'.boxobj n v hv
    · rename_i hn
      exact (u.mok.boxobj n v hv).keep (u.st.frame v (u.mok.boxlt n v hv) (u.not_box (by omega) hv))
  slotlt := fun s r hr => by
    simp only [Mp.merge] at hr
    split at hr
    · exact u.mok'.slotlt s r hr
    · exact Nat.lt_of_lt_of_le (u.mok.slotlt s r hr) u.st.size
  slotbox := fun s r n hr hn => by
    simp only [Mp.merge] at hr hn
    split at hr <;> split at hn
    · exact u.mok'.slotbox s r n hr hn
    · rcases u.st.exts s r hr with h | h | ⟨s0, r0, _, h3, h4⟩
      · exact u.mok.slotbox s r n (Mp.cut_live h).2 hn
      · have := u.mok.boxlt n _ hn
        omega
      · exact u.mok.slotbox s0 r0 n (Mp.cut_live h3).2 (h4 ▸ hn)
    · rcases u.st.extb n _ hn with h | h
      · exact u.mok.slotbox s r n hr (Mp.cut_box h).2
      · have := u.mok.slotlt s r hr
        omega
    · exact u.mok.slotbox s r n hr hn
  slotinj := by
    have key : ∀ s s' r r', s < S' → ¬ s' < S' → M'.slot s = .live r → M.slot s' = .live r' → r.b = r'.b → False := by
      intro s s' r r' h1 h2 hr hr' e
      have hS := u.hS
      rcases u.st.exts s r hr with h | h | ⟨s0, r0, _, h3, h4⟩
      · obtain ⟨h5, h6⟩ := Mp.cut_live h
        have := u.mok.slotinj s s' r r' h6 hr' e
        omega
      · have := u.mok.slotlt s' r' hr'
        omega
      · obtain ⟨h5, h6⟩ := Mp.cut_live h3
        have := u.mok.slotinj s0 s' r0 r' h6 hr' (h4.trans e)
        omega
    intro s s' r r' hr hr' e
    simp only [Mp.merge] at hr hr'
    split at hr <;> split at hr'
    · exact u.mok'.slotinj s s' r r' hr hr' e
    · exact (key s s' r r' (by assumption) (by assumption) hr hr' e).elim
    · exact (key s' s r' r (by assumption) (by assumption) hr' hr e.symm).elim
    · exact u.mok.slotinj s s' r r' hr hr' e
  sents := {
    inj := u.mok'.sents.inj
    obj := u.mok'.sents.obj
    box := fun i a n h hn => by
      simp only [Mp.merge] at h hn
      split at hn
      · exact u.mok'.sents.box i a n h hn
      · rw [u.st.le.sent] at h
        exact u.mok.sents.box i a n h hn
    slot := fun i a s r h hr => by
      simp only [Mp.merge] at h hr
      split at hr
      · exact u.mok'.sents.slot i a s r h hr
      · rw [u.st.le.sent] at h
        exact u.mok.sents.slot i a s r h hr }
  slotpin := fun s r j hr h1 h2 => by
    simp only [Mp.merge] at hr ⊢
    split at hr
    · exact u.mok'.slotpin s r j hr h1 h2
    · rename_i hs
      have hS := u.hS
      cases hp : M'.pin r.b (r.o + j) with
      | none => rfl
      | some x =>
        rcases u.st.extp _ _ _ hp with h | h | ⟨s0, r0, _, h3, h4⟩
        · have h' : M.pin r.b (r.o + j) = some x := h
          rw [u.mok.slotpin s r j hr h1 h2] at h'; cases h'
        · have := u.mok.slotlt s r hr
          omega
        · obtain ⟨h5, h6⟩ := Mp.cut_live h3
          have := u.mok.slotinj s0 s r0 r h6 hr h4
          omega

theorem stM (u : Under G W M w M' w' B S B' S') (hW : ∀ l, W l → W' l) (hb : M.nb ≤ B) (hs : M.ns ≤ S) : Stp W' M w (M.merge M' B' S') w' where
  le := u.le
  size := u.st.size
  frame := fun b hb ho => u.st.frame b hb (by
    rintro (⟨n, hn, hb'⟩ | ⟨s, r, hs, hr, e⟩)
    · exact ho (.inl ⟨n, hW _ hn, (Mp.cut_box hb').2⟩)
    · exact ho (.inr ⟨s, r, hW _ hs, (Mp.cut_live hr).2, e⟩))
  extb := fun n v hv => by
    simp only [Mp.merge] at hv
    split at hv
    · rcases u.st.extb n v hv with h | ⟨h1, h2⟩
      · exact .inl (Mp.cut_box h).2
      · exact .inr ⟨h1, Nat.le_trans hb h2⟩
    · exact .inl hv
  exts := fun s r hr => by
    simp only [Mp.merge] at hr
    split at hr
    · rcases u.st.exts s r hr with h | h | ⟨s0, r0, h1, h2, h3⟩
      · exact .inl (Mp.cut_live h).2
      · exact .inr (.inl h)
      · exact .inr (.inr ⟨s0, r0, hW _ h1, (Mp.cut_live h2).2, h3⟩)
    · exact .inl hr
  extp := fun b o v hv => by
    rcases u.st.extp b o v hv with h | h | ⟨s0, r0, h1, h2, h3⟩
    · exact .inl h
    · exact .inr (.inl h)
    · exact .inr (.inr ⟨s0, r0, hW _ h1, (Mp.cut_live h2).2, h3⟩)
  news := fun s h => by
    simp only [Mp.merge] at h
    split at h
    · rcases u.st.news s h with h1 | h1
      · left
        intro e
        apply h1
        simp only [Mp.cut]
        split
        · exact e
        · rfl
      · exact .inr (Nat.le_trans hs h1)
    · exact .inl h
  nbl := Nat.le_refl _
  nsl := Nat.le_refl _
  io := u.st.io
  slk := fun s r hr hw => by
    simp only [Mp.merge]
    split
    · rename_i h
      have hlt : s < S := Classical.byContradiction fun hn => by rw [u.noslot s (by omega) h] at hr; cases hr
      exact u.st.slk s r (by simp [Mp.cut, hlt, hr]) fun h => hw (hW _ h)
    · exact hr
end Under
end
end Am

namespace Am
open Go Go.Lib

section
variable {Q : AProg} {K : CallF} {rnd : Option Nat} {ops : Array Oper} {b : Array Nat} {as : List AOper} {σ ρ : Nat → St}

theorem Txt.env1 (x : Txt Q K rnd as σ ρ) (hd : drawOk ops b as = true) (hl : as.length = ops.size) {j : Nat} (hj : j < as.length) : ∃ v, (σ (j + 1)).env = setDst (σ j).env (dstAt as j) v ∧ (ρ j).env = setDst (σ j).env (dstAt as j) v := by
  obtain ⟨o, a, ho, ha, _, h2, _⟩ := drawOk_spec hd hj hl
  obtain ⟨v, h3, _⟩ := evalOper_congr (e' := (σ j).env) h2 (fun _ _ => rfl) (x.run j a ha)
  refine ⟨v, ?_, ?_⟩
  · rw [x.next j hj]; simp only [lowerS, dstAt, ha, Option.bind_some]; exact h3
  · simp only [dstAt, ha, Option.bind_some]; exact h3

theorem setDst_get (e : Env) (d : Option Nat) (v : AV) (i : Nat) : (setDst e d v).get i = if d = some i then v else e.get i := by
  cases d with
  | none => simp [setDst]
  | some d =>
    simp only [setDst, env_set_get, Option.some.injEq]
    by_cases h : i = d
    · subst h; simp
    · simp [h, Ne.symm h]

theorem Txt.env_keep (x : Txt Q K rnd as σ ρ) (hd : drawOk ops b as = true) (hl : as.length = ops.size) {i d : Nat} : ∀ (m : Nat), i + m ≤ as.length → (∀ k, i ≤ k → k < i + m → dstAt as k ≠ some d) → (σ (i + m)).env.get d = (σ i).env.get d
  | 0, _, _ => rfl
  | m + 1, h, hn => by
    obtain ⟨v, hv, _⟩ := x.env1 hd hl (j := i + m) (by omega)
    have := x.env_keep hd hl (i := i) (d := d) m (by omega) (fun k h1 h2 => hn k h1 (by omega))
    show (σ (i + m + 1)).env.get d = _
    rw [hv, setDst_get, if_neg (hn (i + m) (by omega) (by omega)), this]

theorem Txt.ds_keep (x : Txt Q K rnd as σ ρ) (hd : drawOk ops b as = true) (hl : as.length = ops.size) : ∀ (m : Nat), m ≤ as.length → (σ m).ds = (σ 0).ds
  | 0, _ => rfl
  | m + 1, h => by
    obtain ⟨o, a, ho, ha, _, h2, _⟩ := drawOk_spec hd (show m < as.length from h) hl
    obtain ⟨v, _, h3, _⟩ := evalOper_congr (e' := (σ m).env) h2 (fun _ _ => rfl) (x.run m a ha)
    rw [x.next m h]
    show (ρ m).ds = _
    rw [h3, x.ds_keep hd hl m (by omega)]

theorem Txt.box_keep (x : Txt Q K rnd as σ ρ) (hKF : KFr K) {i n : Nat} : ∀ (m : Nat), i + m ≤ as.length → (∀ k, i ≤ k → k < i + m → Loc.b n ∉ logW' (σ k) (ρ k)) → (σ (i + m)).h.get n = (σ i).h.get n
  | 0, _, _ => rfl
  | m + 1, h, hn => by
    have := x.box_keep hKF (i := i) (n := n) m (by omega) (fun k h1 h2 => hn k h1 (by omega))
    show (σ (i + m + 1)).h.get n = _
    rw [x.keepb hKF (by omega) (hn (i + m) (by omega) (by omega)), this]

theorem Txt.slot_keep (x : Txt Q K rnd as σ ρ) (hKF : KFr K) (hok : ∀ j, j ≤ as.length → HOk (σ j).h) {i n : Nat} : ∀ (m : Nat), i + m ≤ as.length → (∀ k, i ≤ k → k < i + m → Loc.s n ∉ logW' (σ k) (ρ k)) →
    (σ (i + m)).h.slot n = (σ i).h.slot n
  | 0, _, _ => rfl
  | m + 1, h, hn => by
    have := x.slot_keep hKF hok (i := i) (n := n) m (by omega) (fun k h1 h2 => hn k h1 (by omega))
    show (σ (i + m + 1)).h.slot n = _
    rw [x.keeps hKF (by omega) (hn (i + m) (by omega) (by omega)) (hok _ (by omega)), this]
end

section
variable {P : Program} {Q : AProg} {K : CallF} {rnd : Option Nat} {T W : Loc → Prop} {ops : Array Oper} {b : Array Nat} {as : List AOper} {σ ρ : Nat → St} {nt : Nat} {M0 M M' : Mp} {w0 w w' : World}

def DoneAt (S : Nat → Bool) (k : Nat) : Nat → Bool := fun i => i == k || S i

/-- what an operation may look at: what it logged, and what is its own -/
def LogT (s r : St) (l : Loc) : Prop := l ∈ logT' s r ∨ match l with | .b n => s.h.nb ≤ n | .s n => s.h.ns ≤ n

theorem cut_le_cut {M1 M2 : Mp} (h : M1.Le M2) (B S : Nat) : (M1.cut B S).Le (M2.cut B S) := Mp.cut_mono (Nat.le_refl _) (Nat.le_refl _) h

theorem Inv.step (x : Txt Q K rnd as σ ρ) (hKF : KFr K) (hd : drawOk ops b as = true) (hl : as.length = ops.size) (hok : ∀ j, j ≤ as.length → HOk (σ j).h) {S : Nat → Bool} {a : Act}
    (I : Inv P Q.G T W as σ ρ nt M0 w0 S M w a.tmps) {k : Nat} (hk : k < as.length) (hS : S k = false) (hdown : ∀ i j, S j = true → Bf b i j → S i = true)
    (g : Good P Q.G (LogT (σ k) (ρ k)) M' (ρ k).h w') (st : Stp (LogW (σ k).h (ρ k).h) (M.cut (σ k).h.nb (σ k).h.ns) w M' w')
    {v : AV} {c : Value} (henv : (ρ k).env = setDst (σ k).env (dstAt as k) v) (hv : VRel P Q.G M' v c) (hdl : ∀ d, dstAt as k = some d → d < nt)
    (hW : ∀ l, LogW (σ k).h (ρ k).h l → W l) :
    Inv P Q.G T W as σ ρ nt M0 w0 (DoneAt S k) (M.merge M' (σ (k + 1)).h.nb (σ (k + 1)).h.ns) w' (a.put (dstAt as k) c).tmps := by
  have hmono : ∀ {i j}, i ≤ j → j ≤ as.length → (σ i).h.nb ≤ (σ j).h.nb ∧ (σ i).h.ns ≤ (σ j).h.ns := fun hij hj => ⟨(x.fr' hKF hij hj).nb, (x.fr' hKF hij hj).ns⟩
  have hk1 := hmono (Nat.le_succ k) (by omega : k + 1 ≤ as.length)
  have u : Under Q.G (LogW (σ k).h (ρ k).h) M w M' w' (σ k).h.nb (σ k).h.ns (σ (k + 1)).h.nb (σ (k + 1)).h.ns := {
    mok := I.mok, mok' := g.mok, st := st, hB := hk1.1, hS := hk1.2
    nobox := fun n h1 h2 => by
      cases e : M.box n with
      | none => rfl
      | some v =>
        rcases I.fbox n v e with h | ⟨i, hi, hil, h3, h4⟩
        · have := (hmono (Nat.zero_le k) (by omega)).1; omega
        · have hne : i ≠ k := by rintro rfl; rw [hS] at hi; cases hi
          rcases Nat.lt_or_gt_of_ne hne with hlt | hgt
          · have := (hmono (show i + 1 ≤ k from hlt) (by omega)).1; omega
          · have := (hmono (show k + 1 ≤ i from hgt) (by omega)).1; omega
    noslot := fun n h1 h2 => by
      cases e : M.slot n with
      | unborn => rfl
      | _ =>
        rcases I.fslot n (by rw [e]; simp) with h | ⟨i, hi, hil, h3, h4⟩
        · have := (hmono (Nat.zero_le k) (by omega)).2; omega
        · have hne : i ≠ k := by rintro rfl; rw [hS] at hi; cases hi
          rcases Nat.lt_or_gt_of_ne hne with hlt | hgt
          · have := (hmono (show i + 1 ≤ k from hlt) (by omega)).2; omega
          · have := (hmono (show k + 1 ≤ i from hgt) (by omega)).2; omega
    fbox := fun n hn => g.fbox n (by rw [x.nb1 hk] at hn; exact hn)
    fslot := fun n hn => g.fslot n (by rw [x.ns1 hk] at hn; exact hn) }
  have hle := u.le
  have hnb0 : M.nb ≤ (σ k).h.nb := by rw [I.nb0]; exact (hmono (Nat.zero_le k) (by omega)).1
  have hns0 : M.ns ≤ (σ k).h.ns := by rw [I.ns0]; exact (hmono (Nat.zero_le k) (by omega)).2
  have hclear : ∀ {j : Nat} {wr : Nat → Prop}, Clear (DoneAt S k) as.length j wr → ¬ wr k → Clear S as.length j wr := by
    intro j wr hc hw i hi
    refine ⟨fun h1 h2 => (hc i hi).1 (by simp [DoneAt, h1]) h2, fun h1 h2 => ?_⟩
    by_cases e : i = k
    · subst e; exact hw
    · exact (hc i hi).2 (by simp [DoneAt, e, h1]) h2
  have hcl_k : ∀ {j : Nat} {wr : Nat → Prop}, Clear (DoneAt S k) as.length j wr → j ≤ k → ¬ wr k := fun hc hj => (hc k hk).1 (by simp [DoneAt]) hj
  -- an operation between k and j that does such a thing is done, and stands apart from k
  have hbtw : ∀ {j : Nat} {wr : Nat → Prop}, Clear (DoneAt S k) as.length j wr → ∀ i, k < i → i < j → i < as.length → wr i → i ≠ k ∧ ¬ Bf b i k ∧ ¬ Bf b k i := by
    intro j wr hc i h1 h2 hi hw
    have hSi : S i = true := by
      cases e : S i with
      | true => rfl
      | false => exact absurd hw ((hc i hi).2 (by simp [DoneAt, e]; omega) h2)
    exact ⟨by omega, fun h => by have := h.1; omega, fun h => by have := hdown k i hSi h; rw [hS] at this; cases this⟩
  have hfr : ∀ {n : Nat} {vv : Nat}, M.box n = some vv → Loc.b n ∉ logW' (σ k) (ρ k) → ¬ OwnedBy (LogW (σ k).h (ρ k).h) (M.cut (σ k).h.nb (σ k).h.ns) vv := by
    rintro n vv hb hn (⟨m, hm, hm'⟩ | ⟨s, r, _, hr, rfl⟩)
    · obtain ⟨h1, h2⟩ := Mp.cut_box hm'
      have := I.mok.boxinj n m vv hb h2
      subst this
      rcases hm with h | h
      · exact hn (by simp only [logW', List.mem_append]; exact .inr h)
      · simp only at h; omega
    · exact I.mok.slotbox s r n (Mp.cut_live hr).2 hb
  refine { mok := u.mokM, glob := fun gl hgl => hle.box _ _ (I.glob gl hgl), nb0 := I.nb0, ns0 := I.ns0, globlt := I.globlt, size := by rw [put_size]; exact I.size, st := I.st.trans (u.stM hW hnb0 hns0), fbox := ?_, fslot := ?_, env := ?_, boxes := ?_, slots := ?_ }
  · intro n vv hb
    simp only [Mp.merge] at hb
    split at hb
    · rename_i hlt
      by_cases h : (σ k).h.nb ≤ n
      · exact .inr ⟨k, by simp [DoneAt], hk, h, hlt⟩
      · rcases st.extb n vv hb with h1 | h1
        · rcases I.fbox n vv (Mp.cut_box h1).2 with h2 | ⟨i, h2, h3⟩
          · exact .inl h2
          · exact .inr ⟨i, by simp [DoneAt, h2], h3⟩
        · have h2 : (σ k).h.nb ≤ n := h1.2
          omega
    · rcases I.fbox n vv hb with h2 | ⟨i, h2, h3⟩
      · exact .inl h2
      · exact .inr ⟨i, by simp [DoneAt, h2], h3⟩
  · intro n hb
    simp only [Mp.merge] at hb
    split at hb
    · rename_i hlt
      by_cases h : (σ k).h.ns ≤ n
      · exact .inr ⟨k, by simp [DoneAt], hk, h, hlt⟩
      · rcases st.news n hb with h1 | h1
        · rcases I.fslot n (fun e => h1 (by simp only [Mp.cut]; split <;> simp [e])) with h2 | ⟨i, h2, h3⟩
          · exact .inl h2
          · exact .inr ⟨i, by simp [DoneAt, h2], h3⟩
        · have h2 : (σ k).h.ns ≤ n := h1
          omega
    · rcases I.fslot n hb with h2 | ⟨i, h2, h3⟩
      · exact .inl h2
      · exact .inr ⟨i, by simp [DoneAt, h2], h3⟩
  · intro d j hj hc
    by_cases hdk : dstAt as k = some d
    · have hjk : k < j := Classical.byContradiction fun h => hcl_k hc (by omega) hdk
      have hkeep : (σ j).env.get d = v := by
        have := x.env_keep hd hl (i := k + 1) (d := d) (j - (k + 1)) (by omega) (fun i h1 h2 hi => by
          obtain ⟨h3, h4, h5⟩ := hbtw hc i (by omega) (by omega) (by omega) hi
          exact (indep x hd hl (by omega) hk h3 h4 h5).2.2.2 d hi hdk)
        rw [show k + 1 + (j - (k + 1)) = j by omega] at this
        rw [this, x.next k hk]
        simp only [lowerS]
        rw [henv, setDst_get, if_pos hdk]
      rw [hkeep]
      have hval : (a.put (dstAt as k) c).tmps.getD d undef = c := by
        have : d < a.tmps.size := by rw [I.size]; exact hdl d hdk
        simp [hdk, Act.put, Array.getElem?_setIfInBounds_self_of_lt this]
      rw [hval]
      have := hmono (show k + 1 ≤ j from hjk) hj
      exact hv.mono (u.cut_le this.1 this.2)
    · have hval : (a.put (dstAt as k) c).tmps.getD d undef = a.tmps.getD d undef := by
        cases hq : dstAt as k with
        | none => rfl
        | some d' =>
          have : d' ≠ d := by rintro rfl; exact hdk hq
          simp [Act.put, Array.getElem?_setIfInBounds_ne this]
      rw [hval]
      exact (I.env d j hj (hclear hc hdk)).mono (cut_le_cut hle _ _)
  · intro n j o hj hT hc hg
    by_cases hwk : Loc.b n ∈ logW' (σ k) (ρ k)
    · have hjk : k < j := Classical.byContradiction fun h => hcl_k hc (by omega) hwk
      have hkeep : (σ j).h.get n = (ρ k).h.get n := by
        have := x.box_keep hKF (i := k + 1) (n := n) (j - (k + 1)) (by omega) (fun i h1 h2 hi => by
          obtain ⟨h3, h4, h5⟩ := hbtw hc i (by omega) (by omega) (by omega) hi
          exact (indep x hd hl (by omega) hk h3 h4 h5).1 _ hi (logW_T hwk))
        rw [show k + 1 + (j - (k + 1)) = j by omega] at this
        rw [this, x.get1 hk]
      rw [hkeep] at hg
      obtain ⟨vv, h1, h2⟩ := g.boxes n o (.inl (logW_T hwk)) hg
      have := hmono (show k + 1 ≤ j from hjk) hj
      have hc' := u.cut_le this.1 this.2
      exact ⟨vv, hc'.box _ _ h1, h2.keep hc' rfl⟩
    · obtain ⟨vv, h1, h2⟩ := I.boxes n j o hj hT (hclear hc hwk) hg
      have hc' := cut_le_cut hle (σ j).h.nb (σ j).h.ns
      have hb := (Mp.cut_box h1).2
      exact ⟨vv, hc'.box _ _ h1, h2.keep hc' (st.frame vv (I.mok.boxlt n vv hb) (hfr hb hwk))⟩
  · intro n j o hj hT hc hg
    by_cases hwk : Loc.s n ∈ logW' (σ k) (ρ k)
    · have hjk : k < j := Classical.byContradiction fun h => hcl_k hc (by omega) hwk
      have hkeep : (σ j).h.slot n = (ρ k).h.slot n := by
        have := x.slot_keep hKF hok (i := k + 1) (n := n) (j - (k + 1)) (by omega) (fun i h1 h2 hi => by
          obtain ⟨h3, h4, h5⟩ := hbtw hc i (by omega) (by omega) (by omega) hi
          exact (indep x hd hl (by omega) hk h3 h4 h5).1 _ hi (logW_T hwk))
        rw [show k + 1 + (j - (k + 1)) = j by omega] at this
        rw [this, x.slot1 hk]
      rw [hkeep] at hg
      have h1 := g.slots n o (.inl (logW_T hwk)) hg
      have := hmono (show k + 1 ≤ j from hjk) hj
      have hc' := u.cut_le this.1 this.2
      refine h1.keep hc' ?_ (fun r _ => rfl)
      obtain ⟨r, hr, _⟩ := h1
      have := hc'.slot n
      rw [hr] at this ⊢
      have hlt : n < (σ (k + 1)).h.ns := Classical.byContradiction fun hn => by rw [u.fslot n (by omega)] at hr; cases hr
      have hlt' : n < (σ j).h.ns := by omega
      simp only [Mp.cut, hlt', if_true, Mp.merge, hlt, hr]
    · have h1 := I.slots n j o hj hT (hclear hc hwk) hg
      have hc' := cut_le_cut hle (σ j).h.nb (σ j).h.ns
      have h1' := h1
      obtain ⟨r, hr, _⟩ := h1'
      obtain ⟨hlt, hr'⟩ := Mp.cut_live hr
      have hno : ¬ LogW (σ k).h (ρ k).h (.s n) ∨ (σ k).h.ns ≤ n := by
        by_cases h : (σ k).h.ns ≤ n
        · exact .inr h
        · left
          rintro (h2 | h2)
          · exact hwk (by simp only [logW', List.mem_append]; exact .inr h2)
          · exact h h2
      have hown : ¬ OwnedBy (LogW (σ k).h (ρ k).h) (M.cut (σ k).h.nb (σ k).h.ns) r.b := by
        rintro (⟨m, _, hm⟩ | ⟨s, r', hs, hr2, e⟩)
        · exact I.mok.slotbox n r m hr' (Mp.cut_box hm).2
        · obtain ⟨h3, h4⟩ := Mp.cut_live hr2
          have := I.mok.slotinj s n r' r h4 hr' e
          subst this
          rcases hno with h | h
          · exact h hs
          · omega
      refine h1.keep hc' ?_ (fun r2 hr2 => ?_)
      · rw [hr]
        have key : (M.merge M' (σ (k + 1)).h.nb (σ (k + 1)).h.ns).slot n = .live r := by
          simp only [Mp.merge]
          split
          · rename_i hlt2
            have hlt3 : n < (σ k).h.ns := Classical.byContradiction fun hn => by rw [u.noslot n (by omega) hlt2] at hr'; cases hr'
            rcases hno with h | h
            · exact st.slk n r (by simp [Mp.cut, hlt3, hr']) h
            · omega
          · exact hr'
        simp only [Mp.cut, hlt, if_true, key]
      · rw [hr] at hr2; cases hr2
        exact st.frame r.b (I.mok.slotlt n r hr') hown
end
end Am

namespace Am
open Go Go.Lib

theorem filter_lt {p q : Nat → Bool} (hi : ∀ x, q x = true → p x = true) {k : Nat} (hp : p k = true) (hq : q k = false) : ∀ (l : List Nat), k ∈ l → (l.filter q).length < (l.filter p).length
  | x :: l, hk => by
    have hle : ∀ (l : List Nat), (l.filter q).length ≤ (l.filter p).length := by
      intro l
      induction l with
      | nil => simp
      | cons y l ih =>
        simp only [List.filter_cons]
        cases h1 : q y with
        | true => simp [hi y h1]; exact ih
        | false => cases h2 : p y <;> simp <;> omega
    simp only [List.filter_cons]
    rcases List.mem_cons.1 hk with e | e
    · subst e
      simp only [hp, hq, if_true, Bool.false_eq_true, if_false, List.length_cons]
      have := hle l
      omega
    · have := filter_lt hi hp hq l e
      cases h1 : q x with
      | true => simp [hi x h1]; exact this
      | false => cases h2 : p x <;> simp <;> omega

section
variable {P : Program} {Q : AProg} {K : CallF} {rnd : Option Nat} {T W : Loc → Prop} {ops : Array Oper} {b : Array Nat} {as : List AOper} {σ ρ : Nat → St} {nt : Nat} {M0 M M' : Mp} {w0 w w' : World}

theorem Inv.one (hK : KOk P Q.G K) (x : Txt Q K rnd as σ ρ) (hKF : KFr K) (hd : drawOk ops b as = true) (ht : TrOs P nt ops as) (hok : ∀ j, j ≤ as.length → HOk (σ j).h) (hG : Q.G ≤ (σ 0).h.nb)
    {S : Nat → Bool} {a : Act} (I : Inv P Q.G T W as σ ρ nt M0 w0 S M w a.tmps) {k : Nat} (hk : k < as.length) (hS : S k = false) (hbf : ∀ i, Bf b i k → S i = true)
    (hdown : ∀ i j, S j = true → Bf b i j → S i = true) (hT : ∀ j, j < as.length → ∀ l, LogT (σ j) (ρ j) l → T l) (hW : ∀ j, j < as.length → ∀ l, LogW (σ j).h (ρ j).h l → W l)
    (bf : Frame) (rest : List Nat) (kk : List Item) (cs : List Frame) :
    ∃ M' w' c, Inv P Q.G T W as σ ρ nt M0 w0 (DoneAt S k) M' w' (a.put (dstAt as k) c).tmps ∧
      FS P cs bf a (.inRegion ops (k :: rest) :: kk) w (a.put (dstAt as k) c) (.inRegion ops rest :: kk) w' := by
  have hl := ht.1
  obtain ⟨o, ao, ho, ha, hedge, hnd, _⟩ := drawOk_spec hd hk hl
  obtain ⟨ao', ha', htr⟩ := ht.2 k o ho
  rw [ha] at ha'; cases ha'
  have hdst : dstAt as k = ao.dst := by simp [dstAt, ha]
  have hr := x.run k ao ha
  rcases htr with htr | ⟨hbad, hg⟩
  · obtain ⟨v, h1, h2, h3⟩ := evalOper_congr (e' := maskE ao.names (σ k).env) hnd (fun d hd => by rw [maskE_get]; simp [hd]) hr
    have hmono : ∀ {i j}, i ≤ j → j ≤ as.length → (σ i).h.nb ≤ (σ j).h.nb ∧ (σ i).h.ns ≤ (σ j).h.ns := fun hij hj => ⟨(x.fr' hKF hij hj).nb, (x.fr' hKF hij hj).ns⟩
    have hcut : M.Le M := .refl M
    have hcl : ∀ {wr : Nat → Prop}, (∀ i, i < as.length → i ≠ k → ¬ Bf b i k → ¬ Bf b k i → ¬ wr i) → Clear S as.length k wr := by
      intro wr h i hi
      refine ⟨fun hs hki => ?_, fun hs hik => ?_⟩
      · have hne : i ≠ k := by rintro rfl; rw [hS] at hs; cases hs
        exact h i hi hne (fun hb => by have := hb.1; omega) (fun hb => by have := hdown k i hs hb; rw [hS] at this; cases this)
      · exact h i hi (by omega) (fun hb => by have := hbf i hb; rw [hs] at this; cases this) (fun hb => by have := hb.1; omega)
    have hfr := x.fr hKF hk
    have g0 : Good P Q.G (LogT (σ k) (ρ k)) (M.cut (σ k).h.nb (σ k).h.ns) (enterH (σ k).h) w := {
      mok := I.mok.cut _ _
      glob := fun gl hgl => by
        have hb := I.glob gl hgl
        have : gl < (σ k).h.nb := Nat.lt_of_lt_of_le (I.globlt gl hgl) (hmono (Nat.zero_le k) (by omega)).1
        simp [Mp.cut, this, hb]
      gle := Nat.le_trans hG (hmono (Nat.zero_le k) (by omega)).1
      nbeq := rfl
      nseq := rfl
      hok := ⟨(hok k (by omega)).len, (hok k (by omega)).live, Nat.le_refl _, Nat.le_refl _⟩
      fbox := fun n hn => by simp only [Mp.cut]; rw [if_neg (by have : (enterH (σ k).h).nb = (σ k).h.nb := rfl; omega)]
      fslot := fun n hn => by simp only [Mp.cut]; rw [if_neg (by have : (enterH (σ k).h).ns = (σ k).h.ns := rfl; omega)]
      boxes := fun n o' hTn hgn => by
        have hgn' : (σ k).h.get n = some o' := hgn
        refine I.boxes n k o' (by omega) (hT k hk _ hTn) (hcl fun i hi hne hb1 hb2 hw => ?_) hgn'
        rcases hTn with h | h
        · exact (indep x hd hl hi hk hne hb1 hb2).1 _ hw h
        · have := Heap.get_lt hgn'
          simp only at h; omega
      slots := fun n o' hTn hgn => by
        have hgn' : (σ k).h.slot n = some o' := hgn
        refine I.slots n k o' (by omega) (hT k hk _ hTn) (hcl fun i hi hne hb1 hb2 hw => ?_) hgn'
        rcases hTn with h | h
        · exact (indep x hd hl hi hk hne hb1 hb2).1 _ hw h
        · have := slot_lt (hok k (by omega)) hgn'
          simp only at h; omega }
    have he0 : ERel P Q.G (M.cut (σ k).h.nb (σ k).h.ns) (maskE ao.names (σ k).env) a.tmps := by
      intro d
      rw [maskE_get]
      split
      · rename_i hd'
        have hd' : d ∈ ao.names := by simpa using hd'
        exact I.env d k (by omega) (hcl fun i hi hne hb1 hb2 hw => (indep x hd hl hi hk hne hb1 hb2).2.2.1 ao d ha hw hd')
      · exact .junk
    have cv : Cov (LogT (σ k) (ρ k)) (LogW (σ k).h (ρ k).h) (ρ k).h := {
      t := fun l hl => .inl (by simp only [logT', List.mem_append]; exact .inr hl)
      w := fun l hl => .inl hl
      ownb := fun n hn => by
        have h1 : (ρ k).h.base = (σ k).h.nb := hfr.base
        exact ⟨.inr (by simp only; omega), .inr (by simp only; omega)⟩
      owns := fun n hn => by
        have h1 : (ρ k).h.sbase = (σ k).h.ns := hfr.sbase
        exact ⟨.inr (by simp only; omega), .inr (by simp only; omega)⟩ }
    obtain ⟨M', w', v', c, g', h4, hv, st, run⟩ := oper_nd (b := bf) (rest := rest) hK ho htr hnd (s := ⟨maskE ao.names (σ k).env, (σ k).ds, enterH (σ k).h⟩) g0 he0 I.size h3 cv kk cs
    have hsame : (ρ k).env = setDst (σ k).env (dstAt as k) v' := by
      rw [hdst]
      rw [h1]
      simp only at h4
      cases hq : ao.dst with
      | none => rfl
      | some d =>
        rw [hq] at h4
        have := congrArg (fun e => e.get d) h4
        simp only [setDst_get, if_true] at this
        rw [this]
    have := Inv.step x hKF hd hl hok I hk hS hdown g' st hsame hv (fun d hdd => htr.dlt d (by rw [← htr.dst, ← hdst]; exact hdd)) (hW k hk)
    refine ⟨_, w', c, this, ?_⟩
    rw [hdst, htr.dst]
    exact run
  · simp [evalOper, hg, wantedA, hbad, opA] at hr

theorem ready_nil {listed : Array Bool} (hd : drawOk ops b as = true) (hl : as.length = ops.size) (hs : listed.size = ops.size) (hr : Region.ready .any ops listed = []) : ∀ i, i < ops.size → listed.getD i false = true := by
  intro i
  induction i using Nat.strongRecOn with
  | ind i ih =>
    intro hi
    apply Classical.byContradiction
    intro hn
    obtain ⟨o, ao, ho, ha, hedge, _⟩ := drawOk_spec hd (hl ▸ hi) hl
    have hmem : i ∈ Region.ready .any ops listed := by
      simp only [Region.ready, List.mem_filter, List.mem_range, Bool.and_eq_true, ho, Option.map_some, Option.getD_some, Array.all_eq_true]
      refine ⟨hi, ?_, fun j hj => ?_⟩
      · have : listed.getD i true = listed.getD i false := by simp [Array.getD, hs, hi]
        rw [this]
        simpa using hn
      · cases hb : Region.binds .any o.after[j] with
        | false => simp
        | true =>
          have h1 := hedge o.after[j] (by simp) hb
          simp [ih _ h1 (by omega)]
    rw [hr] at hmem
    cases hmem

theorem draw_go (hK : KOk P Q.G K) (x : Txt Q K rnd as σ ρ) (hKF : KFr K) (hd : drawOk ops b as = true) (ht : TrOs P nt ops as) (hok : ∀ j, j ≤ as.length → HOk (σ j).h) (hG : Q.G ≤ (σ 0).h.nb)
    (hT : ∀ j, j < as.length → ∀ l, LogT (σ j) (ρ j) l → T l) (hW : ∀ j, j < as.length → ∀ l, LogW (σ j).h (ρ j).h l → W l)
    (bf : Frame) (kk : List Item) (cs : List Frame) : ∀ (fuel t : Nat) (listed : Array Bool) {M : Mp} {w : World} {a : Act}, listed.size = ops.size →
    Inv P Q.G T W as σ ρ nt M0 w0 (fun i => listed.getD i false) M w a.tmps → (∀ i j, listed.getD j false = true → Bf b i j → listed.getD i false = true) →
    ((List.range ops.size).filter fun i => !listed.getD i false).length ≤ fuel →
    ∃ M' w' a', (∃ S : Nat → Bool, (∀ i, i < ops.size → S i = true) ∧ Inv P Q.G T W as σ ρ nt M0 w0 S M' w' a'.tmps) ∧ a'.defers = a.defers ∧
      FS P cs bf a (.inRegion ops (Region.linearise.go .any ops fuel t listed []) :: kk) w a' (.inRegion ops [] :: kk) w'
  | 0, t, listed, M, w, a, hs, I, hdown, hf => by
    refine ⟨M, w, a, ⟨_, fun i hi => ?_, I⟩, rfl, .refl P cs bf _ _ _⟩
    have h0 : (List.range ops.size).filter (fun i => !listed.getD i false) = [] := List.eq_nil_of_length_eq_zero (by omega)
    have := List.filter_eq_nil_iff.1 h0 i (List.mem_range.2 hi)
    simpa using this
  | fuel + 1, t, listed, M, w, a, hs, I, hdown, hf => by
    have hl := ht.1
    simp only [Region.linearise.go]
    change ∃ M' w' a', (∃ S : Nat → Bool, (∀ i, i < ops.size → S i = true) ∧ Inv P Q.G T W as σ ρ nt M0 w0 S M' w' a'.tmps) ∧ a'.defers = a.defers ∧
      FS P cs bf a (.inRegion ops (match (Region.ready .any ops listed)[t % (Region.ready .any ops listed).length]? with
        | some i => Region.linearise.go .any ops fuel (t / (Region.ready .any ops listed).length) (listed.setIfInBounds i true) [i]
        | none => [].reverse) :: kk) w a' (.inRegion ops [] :: kk) w'
    cases hi : (Region.ready .any ops listed)[t % (Region.ready .any ops listed).length]? with
    | none =>
      have hnil : Region.ready .any ops listed = [] := by
        cases hr : Region.ready .any ops listed with
        | nil => rfl
        | cons y ys =>
          rw [hr] at hi
          have hlt : t % (y :: ys).length < (y :: ys).length := Nat.mod_lt _ (by simp)
          rw [List.getElem?_eq_getElem hlt] at hi
          cases hi
      exact ⟨M, w, a, ⟨_, ready_nil hd hl hs hnil, I⟩, rfl, .refl P cs bf _ _ _⟩
    | some k =>
      simp only []
      rw [linearise_go_acc, List.reverse_singleton, List.singleton_append]
      have hmem := List.mem_of_getElem? hi
      simp only [Region.ready, List.mem_filter, List.mem_range, Bool.and_eq_true] at hmem
      obtain ⟨hk, hnl, hed⟩ := hmem
      have hkl : listed.getD k false = false := by
        have : listed.getD k true = listed.getD k false := by simp [Array.getD, hs, hk]
        rw [this] at hnl
        simpa using hnl
      obtain ⟨o, ao, ho, ha, hedge, hnd, hbe⟩ := drawOk_spec hd (hl ▸ hk) hl
      have hbf : ∀ i, Bf b i k → listed.getD i false = true := by
        rintro i ⟨h1, h2⟩
        have := hbe i h1
        rw [if_pos h2] at this
        obtain ⟨e, he, hbd, h3⟩ := this
        simp only [ho, Option.map_some, Option.getD_some, Array.all_eq_true] at hed
        obtain ⟨j, hj, hje⟩ := Array.mem_iff_getElem.1 he
        have h4 := hed j hj
        rw [hje, hbd] at h4
        have h4 : listed.getD e.on false = true := by simpa using h4
        rcases h3 with h3 | h3
        · rw [← h3]; exact h4
        · exact hdown i e.on h4 h3
      obtain ⟨M', w', c, I', run⟩ := Inv.one hK x hKF hd ht hok hG I (k := k) (hl ▸ hk) hkl hbf hdown hT hW bf (Region.linearise.go .any ops fuel (t / (Region.ready .any ops listed).length) (listed.setIfInBounds k true) []) kk cs
      have hget : ∀ i, (listed.setIfInBounds k true).getD i false = (i == k || listed.getD i false) := by
        intro i
        by_cases e : i = k
        · subst e
          simp [Array.getD, hs, hk]
        · have hb : (i == k) = false := by simpa using e
          rw [hb, Bool.false_or]
          simp only [Array.getD_eq_getD_getElem?, Array.getElem?_setIfInBounds_ne (Ne.symm e)]
      have hfun : (fun i => (listed.setIfInBounds k true).getD i false) = DoneAt (fun i => listed.getD i false) k := by
        funext i; rw [hget]; rfl
      obtain ⟨M2, w2, a2, hS2, hd2, run2⟩ := draw_go hK x hKF hd ht hok hG hT hW bf kk cs fuel (t / (Region.ready .any ops listed).length) (listed.setIfInBounds k true) (by simpa using hs) (hfun ▸ I')
        (fun i j hj hb => by
          rw [hget] at hj ⊢
          by_cases e : j = k
          · subst e; rw [hbf i hb]; simp
          · have : (j == k) = false := by simpa using e
            rw [this, Bool.false_or] at hj
            rw [hdown i j hj hb]; simp)
        (by
          have := filter_lt (p := fun i => !listed.getD i false) (q := fun i => !(listed.setIfInBounds k true).getD i false) (k := k) (fun i hi => by rw [hget] at hi; simp at hi; simp [hi.2])
            (by simp [hkl]) (by rw [hget]; simp) (List.range ops.size) (List.mem_range.2 hk)
          omega)
      exact ⟨M2, w2, a2, hS2, by rw [hd2, put_defers], run.trans run2⟩

/-- a region whose order is drawn -/
theorem draw_ok {D : Nat} (hm : P.follows .mixedOrders = true) (hK : KOk P Q.G K) (hKF : KFr K) (hd : drawOk ops b as = true) (ht : TrOs P nt ops as) {s s' : St} {a : Act} (sr : SRelS P Q T D M w nt s a)
    (e : evalDraw Q K rnd as [] s = some s') (cv : Cov T W s'.h) (bf : Frame) (id : Nat) (k : List Item) (cs : List Frame) :
    ∃ M' w' a', SRelS P Q T D M' w' nt s' a' ∧ Stp W M w M' w' ∧ FS P cs bf a (.code (.region id ops true) :: k) w a' k w' := by
  obtain ⟨σ, ρ, h0, hn, x⟩ := txt_of e
  subst h0
  have hl := ht.1
  have hok : ∀ j, j ≤ as.length → HOk (σ j).h := fun j hj => (x.fr' hKF (Nat.zero_le j) hj).ok sr.good.hok
  have hbase : ∀ j, j ≤ as.length → (σ j).h.base = (σ 0).h.base ∧ (σ j).h.sbase = (σ 0).h.sbase := fun j hj => ⟨(x.fr' hKF (Nat.zero_le j) hj).base, (x.fr' hKF (Nat.zero_le j) hj).sbase⟩
  have hmono : ∀ {i j}, i ≤ j → j ≤ as.length → (σ i).h.nb ≤ (σ j).h.nb ∧ (σ i).h.ns ≤ (σ j).h.ns := fun hij hj => ⟨(x.fr' hKF hij hj).nb, (x.fr' hKF hij hj).ns⟩
  rw [← hn] at cv
  have hWn : ∀ j, j < as.length → ∀ l, LogW (σ j).h (ρ j).h l → T l ∧ W l := by
    intro j hj l hlw
    have f1 := x.fr' hKF (show j + 1 ≤ as.length from hj) (Nat.le_refl _)
    have hb := hbase j (by omega)
    have hbn := hbase as.length (Nat.le_refl _)
    have hbj := (hok j (by omega)).base
    have hsj := (hok j (by omega)).sbase
    rcases hlw with h | h
    · by_cases hlow : (match l with | .b n => n < (σ j).h.base | .s n => n < (σ j).h.sbase)
      · have hin : l ∈ (σ (j + 1)).h.w := by
          rw [x.next j hj]
          exact List.mem_append_left _ (mem_filt.2 ⟨h, hlow⟩)
        have hint : l ∈ (σ (j + 1)).h.t := by
          rw [x.next j hj]
          exact List.mem_append_left _ (mem_filt.2 ⟨(x.fr hKF hj).wt (fun l hl => nomatch hl) l h, hlow⟩)
        exact ⟨cv.t l (f1.toGrow.t_mem hint), cv.w l (f1.toGrow.w_mem hin)⟩
      · cases l with
        | b n => simp only at hlow; exact cv.ownb n (by omega)
        | s n => simp only at hlow; exact cv.owns n (by omega)
    · cases l with
      | b n => simp only at h; exact cv.ownb n (by omega)
      | s n => simp only at h; exact cv.owns n (by omega)
  have hTn : ∀ j, j < as.length → ∀ l, LogT (σ j) (ρ j) l → T l := by
    intro j hj l hlt
    have f1 := x.fr' hKF (show j + 1 ≤ as.length from hj) (Nat.le_refl _)
    have hb := hbase j (by omega)
    have hbn := hbase as.length (Nat.le_refl _)
    rcases hlt with h | h
    · simp only [logT', List.mem_append] at h
      rcases h with (h | h) | h
      · refine (hWn j hj l (.inr ?_)).1
        cases l with
        | b n => exact ((mem_own_b (x.fr hKF hj).nb).1 h).1
        | s n => exact ((mem_own_s (x.fr hKF hj).ns).1 h).1
      · exact (hWn j hj l (.inl h)).1
      · by_cases hlow : (match l with | .b n => n < (σ j).h.base | .s n => n < (σ j).h.sbase)
        · have hint : l ∈ (σ (j + 1)).h.t := by
            rw [x.next j hj]
            exact List.mem_append_left _ (mem_filt.2 ⟨h, hlow⟩)
          exact cv.t l (f1.toGrow.t_mem hint)
        · cases l with
          | b n => simp only at hlow; exact (cv.ownb n (by omega)).1
          | s n => simp only at hlow; exact (cv.owns n (by omega)).1
    · refine (hWn j hj l (.inr h)).1
  have g1 : Good P Q.G T M (σ 0).h { w with drawn := w.drawn + 1 } := sr.good.of_heap rfl
  have s1 : Stp W M w M { w with drawn := w.drawn + 1 } := Stp.of_heap W M rfl ⟨rfl, rfl⟩
  have hleC : ∀ j, j ≤ as.length → M.Le (M.cut (σ j).h.nb (σ j).h.ns) := fun j hj =>
    Mp.le_cut (fun n hn => sr.good.fbox n (Nat.le_trans (hmono (Nat.zero_le j) hj).1 hn)) (fun n hn => sr.good.fslot n (Nat.le_trans (hmono (Nat.zero_le j) hj).2 hn)) (.refl M)
  have I0 : Inv P Q.G T W as σ ρ nt M { w with drawn := w.drawn + 1 } (fun i => (Array.replicate ops.size false).getD i false) M { w with drawn := w.drawn + 1 } a.tmps := {
    mok := g1.mok, glob := g1.glob, nb0 := g1.nbeq, ns0 := g1.nseq, size := sr.size, st := .refl W M _
    globlt := fun gl hgl => Classical.byContradiction fun h => by have := g1.fbox gl (by omega); rw [g1.glob gl hgl] at this; cases this
    fbox := fun n v hv => .inl (Classical.byContradiction fun h => by rw [g1.fbox n (by omega)] at hv; cases hv)
    fslot := fun n hv => .inl (Classical.byContradiction fun h => hv (g1.fslot n (by omega)))
    env := fun d j hj hc => by
      have := x.env_keep hd hl (i := 0) (d := d) j (by omega) (fun i _ h2 => (hc i (by omega)).2 (by simp [Array.getD]) (by omega))
      rw [Nat.zero_add] at this
      rw [this]
      exact (sr.env d).mono (hleC j hj)
    boxes := fun n j o hj hT' hc hg => by
      have := x.box_keep hKF (i := 0) (n := n) j (by omega) (fun i _ h2 => (hc i (by omega)).2 (by simp [Array.getD]) (by omega))
      rw [Nat.zero_add] at this
      rw [this] at hg
      obtain ⟨v, h1, h2⟩ := g1.boxes n o hT' hg
      exact ⟨v, (hleC j hj).box _ _ h1, h2.keep (hleC j hj) rfl⟩
    slots := fun n j o hj hT' hc hg => by
      have := x.slot_keep hKF hok (i := 0) (n := n) j (by omega) (fun i _ h2 => (hc i (by omega)).2 (by simp [Array.getD]) (by omega))
      rw [Nat.zero_add] at this
      rw [this] at hg
      have h1 := g1.slots n o hT' hg
      have h1' := h1
      obtain ⟨r, hr, _⟩ := h1'
      refine h1.keep (hleC j hj) ?_ (fun _ _ => rfl)
      have hlt : n < (σ 0).h.ns := Classical.byContradiction fun h => by rw [g1.fslot n (by omega)] at hr; cases hr
      have : n < (σ j).h.ns := Nat.lt_of_lt_of_le hlt (hmono (Nat.zero_le j) hj).2
      simp [Mp.cut, this] }
  have hrun := st_region_draw (P := P) (b := bf) (a := a) (k := k) (cs := cs) (w := w) (id := id) (ops := ops)
  simp only [Region.schedule, hm, Bool.true_or, if_true] at hrun
  obtain ⟨M', w', a', ⟨S, hS, I⟩, hdf, run⟩ := draw_go (a := a) hK x hKF hd ht hok sr.good.gle hTn (fun j hj l h => (hWn j hj l h).2) bf k cs ops.size
    (w.tape w.drawn (.order bf.fn id)) (Array.replicate ops.size false) (by simp) I0 (fun i j hj _ => by simp [Array.getD] at hj)
    (by simpa using List.length_filter_le (fun i => !(Array.replicate ops.size false).getD i false) (List.range ops.size))
  have hcl : ∀ wr, Clear S as.length as.length wr := fun wr i hi => ⟨fun _ h => by omega, fun h _ => by rw [hS i (by omega)] at h; cases h⟩
  have hfb : ∀ n v, M'.box n = some v → n < (σ as.length).h.nb := fun n v hv => by
    rcases I.fbox n v hv with h | ⟨i, _, hi, _, h⟩
    · have := (hmono (Nat.zero_le as.length) (Nat.le_refl _)).1; omega
    · have := (hmono (show i + 1 ≤ as.length from hi) (Nat.le_refl _)).1; omega
  have hfs : ∀ n, M'.slot n ≠ .unborn → n < (σ as.length).h.ns := fun n hv => by
    rcases I.fslot n hv with h | ⟨i, _, hi, _, h⟩
    · have := (hmono (Nat.zero_le as.length) (Nat.le_refl _)).2; omega
    · have := (hmono (show i + 1 ≤ as.length from hi) (Nat.le_refl _)).2; omega
  have hboxeq : ∀ n, (M'.cut (σ as.length).h.nb (σ as.length).h.ns).box n = M'.box n := fun n => by
    simp only [Mp.cut]
    split
    · rfl
    · rename_i h
      cases hv : M'.box n with
      | none => rfl
      | some v => exact absurd (hfb n v hv) h
  have hsloteq : ∀ n, (M'.cut (σ as.length).h.nb (σ as.length).h.ns).slot n = M'.slot n := fun n => by
    simp only [Mp.cut]
    split
    · rfl
    · rename_i h
      cases hv : M'.slot n with
      | unborn => rfl
      | _ => exact absurd (hfs n (by rw [hv]; simp)) h
  have hst : Stp W M w (M'.cut (σ as.length).h.nb (σ as.length).h.ns) w' := by
    have st := s1.trans I.st
    have hn0 := hmono (Nat.zero_le as.length) (Nat.le_refl _)
    exact {
      le := ⟨fun n v hv => by rw [hboxeq]; exact st.le.box n v hv, fun s => by rw [hsloteq]; exact st.le.slot s, st.le.pin, st.le.sent⟩
      size := st.size
      frame := st.frame
      extb := fun n v hv => st.extb n v (by rw [← hboxeq]; exact hv)
      exts := fun s r hr => st.exts s r (by rw [← hsloteq]; exact hr)
      extp := st.extp
      news := fun s h => st.news s (by rw [← hsloteq]; exact h)
      nbl := by rw [sr.good.nbeq]; exact hn0.1
      nsl := by rw [sr.good.nseq]; exact hn0.2
      slk := fun s r hr hw => by rw [hsloteq]; exact st.slk s r hr hw
      io := st.io }
  refine ⟨M'.cut (σ as.length).h.nb (σ as.length).h.ns, w', a', ⟨?_, ?_, I.size, ?_, Nat.le_trans sr.fl hst.size⟩, hst, FS.head hrun (run.trans (.one st_region_end))⟩
  · rw [← hn]
    exact {
      mok := I.mok.cut _ _
      glob := fun gl hgl => by rw [hboxeq]; exact I.glob gl hgl
      gle := Nat.le_trans sr.good.gle (hmono (Nat.zero_le as.length) (Nat.le_refl _)).1
      nbeq := rfl
      nseq := rfl
      hok := hok as.length (Nat.le_refl _)
      fbox := fun n hn => by simp only [Mp.cut]; rw [if_neg (by omega)]
      fslot := fun n hn => by simp only [Mp.cut]; rw [if_neg (by omega)]
      boxes := fun n o hT' hg => I.boxes n as.length o (Nat.le_refl _) hT' (hcl _) hg
      slots := fun n o hT' hg => I.slots n as.length o (Nat.le_refl _) hT' (hcl _) hg }
  · rw [← hn]
    intro d
    exact I.env d as.length (Nat.le_refl _) (hcl _)
  · rw [hdf, ← hn]
    have : DRel P Q D (M'.cut (σ as.length).h.nb (σ as.length).h.ns) w' (σ 0).ds a.defers := sr.ds.stp hst
    have hds : (σ as.length).ds = (σ 0).ds := by
      have := x.ds_keep hd hl as.length (Nat.le_refl _)
      exact this
    rw [hds]; exact this
end
end Am
end
section
namespace Am
open Go Go.Lib

theorem enterLoop_in {P : Program} {w : World} {l : Nat} {r : Loop} (h : w.heap[l]? = some (.loop r)) (fn : FuncId) (tmps : Array Value) (ps : Array Tmp) (as bd : Code) :
    (Instr.enterLoop fn tmps ps as bd (some l)).run P w = .ok (w.heap.size, []) (w.alloc (.loop { state := .ready, pending := none, fn, tmps, params := ps, assign := as, body := bd, defers := r.defers })) := by
  unfold Instr.enterLoop
  simp only [Sem.run_bind, run_getLoop h, run_newObj_alloc, Result.andThen, Sem.run_pure]

/-- the frame's round, and its loop's record -/
def RndOk (T : Loc → Prop) (M : Mp) (rnd : Option Nat) (b : Frame) : Prop := match rnd with
  | none => b.roundOf = none
  | some l => T (.b l) ∧ ∃ v, M.box l = some v ∧ b.roundOf = some v

theorem RndOk.mono {T : Loc → Prop} {M M' : Mp} (hm : M.Le M') {rnd : Option Nat} {b : Frame} (h : RndOk T M rnd b) : RndOk T M' rnd b := by
  cases rnd with
  | none => exact h
  | some l => obtain ⟨h1, v, h2, h3⟩ := h; exact ⟨h1, v, hm.box _ _ h2, h3⟩

theorem RndOk.none {T : Loc → Prop} {M : Mp} {rnd : Option Nat} {b : Frame} (h : RndOk T M rnd b) : rnd = .none → b.roundOf = .none := by
  rintro rfl; exact h

theorem Lands.pre {P : Program} {cs : List Frame} {b : Frame} {a a1 a' : Act} {i i1 k : List Item} {w w1 w' : World} {ex : Ex} (h : FS P cs b a i w a1 i1 w1) (l : Lands P cs b a1 i1 w1 k w' a' ex) : Lands P cs b a i w k w' a' ex := by
  cases ex with
  | norm => exact h.trans l
  | exit id => obtain ⟨k2, h1, h2⟩ := l; exact ⟨k2, h1, h.trans h2⟩
  | ret => obtain ⟨k2, h2⟩ := l; exact ⟨k2, h.trans h2⟩

/-- what a piece of work comes to -/
def WorkOk (P : Program) (Q : AProg) (T W : Loc → Prop) (D nt : Nat) (b : Frame) (i : Item) (k : List Item) (cs : List Frame) (M : Mp) (w : World) (a : Act) (s' : St) (ex : Ex) : Prop :=
  ∃ M' w' a', SRelS P Q T D M' w' nt s' a' ∧ Stp W M w M' w' ∧ Lands P cs b a (i :: k) w k w' a' ex

/-- a piece of code, evaluated, is done -/
def BodyOk (P : Program) (Q : AProg) (nt : Nat) (rnd : Option Nat) (c : Code) (β : St → Option (Ex × St)) : Prop :=
  ∀ (T W : Loc → Prop) (D : Nat) (b : Frame) (k : List Item) (cs : List Frame) (M : Mp) (w : World) (s s' : St) (a : Act) (ex : Ex), RndOk T M rnd b → SRelS P Q T D M w nt s a → β s = some (ex, s') → Cov T W s'.h →
    WorkOk P Q T W D nt b (.code c) k cs M w a s' ex

section
variable {P : Program} {Q : AProg} {K : CallF}

theorem loop_ok {nt : Nat} {rnd : Option Nat} {c : Code} {β : St → Option (Ex × St)} (hb : BodyOk P Q nt rnd c β) (hfr : BFr β) : ∀ (n : Nat) (T W : Loc → Prop) (D : Nat) (b : Frame) (k : List Item) (cs : List Frame) (M : Mp) (w : World) (s s' : St) (a : Act) (ex : Ex),
    RndOk T M rnd b → SRelS P Q T D M w nt s a → iterN n β s = some (ex, s') → Cov T W s'.h →
    ∃ M' w' a', SRelS P Q T D M' w' nt s' a' ∧ Stp W M w M' w' ∧ Lands P cs b a (.code c :: .inLoop c :: k) w k w' a' ex
  | 0, T, W, D, b, k, cs, M, w, s, s', a, ex, hr, sr, e, cv => by simp [iterN] at e
  | n + 1, T, W, D, b, k, cs, M, w, s, s', a, ex, hr, sr, e, cv => by
    simp only [iterN] at e
    split at e
    · rename_i s1 h1
      have f2 := iterN_fr n β hfr _ _ _ e
      obtain ⟨M1, w1, a1, sr1, st1, l1⟩ := hb T W D b (.inLoop c :: k) cs M w s s1 a .norm hr sr h1 (cv.of_grow f2.toGrow)
      obtain ⟨M2, w2, a2, sr2, st2, l2⟩ := loop_ok hb hfr n T W D b k cs M1 w1 s1 s' a1 ex (hr.mono st1.le) sr1 e cv
      exact ⟨M2, w2, a2, sr2, st1.trans st2, .pre (FS.trans l1 (.one st_inLoop)) l2⟩
    · rename_i hne
      obtain ⟨M1, w1, a1, sr1, st1, l1⟩ := hb T W D b (.inLoop c :: k) cs M w s s' a ex hr sr e cv
      refine ⟨M1, w1, a1, sr1, st1, ?_⟩
      cases ex with
      | norm => exact absurd e (hne _)
      | exit id => obtain ⟨k2, h1, h2⟩ := l1; exact ⟨k2, by rw [h1]; rfl, h2⟩
      | ret => exact l1

theorem DRel.cut {D B S : Nat} {M : Mp} {w : World} (hG : Q.G ≤ B) {ds : List AD} {Ds : List Deferred} (h : DRel P Q D M w ds Ds) (hn : ∀ d ∈ ds, adNf B S d = true) : DRel P Q D (M.cut B S) w ds Ds := by
  induction h with
  | nil => exact .nil
  | mark h hD hn' _ ih =>
    obtain ⟨h1, h2, h3⟩ := h
    exact .mark ⟨h1, fun n e => h2 n (Mp.cut_box e).2, fun s r e => h3 s r (Mp.cut_live e).2⟩ hD hn' (ih fun d hd => hn d (List.mem_cons_of_mem _ hd))
  | call h hc _ ih =>
    have hf := hn _ (List.mem_cons_self ..)
    exact .call ⟨h.1, fun i hi => (h.2 i hi).cut hG (nfL_get hf hi)⟩ hc (ih fun d hd => hn d (List.mem_cons_of_mem _ hd))

theorem trim_rel {T W : Loc → Prop} {D nt : Nat} {M M1 : Mp} {w w1 : World} {s s1 : St} {a a1 : Act} (sr : SRelS P Q T D M w nt s a) (fr : Fr s.h s1.h) (sr1 : SRelS P Q T D M1 w1 nt s1 a1) (st : Stp W M w M1 w1) :
    ∃ M2, SRelS P Q T D M2 w1 nt (trimS s.h.nb s1) a1 ∧ Stp W M w M2 w1 := by
  by_cases h : canTrim s.h.nb s1 = true
  · have t := trimFacts h
    have g0 := sr.good
    have g1 := sr1.good
    have hle : M.Le (M1.cut s.h.nb s1.h.ns) := Mp.le_cut (fun n hn => g0.fbox n hn) (fun k hk => g0.fslot k (Nat.le_trans fr.ns hk)) st.le
    have hok := (trimS_fr fr).ok g0.hok
    refine ⟨M1.cut s.h.nb s1.h.ns, ⟨?_, ?_, sr1.size, ?_, sr1.fl⟩, Stp.cutBack g0 st rfl fr.ns⟩
    · have enb : (trimS s.h.nb s1).h.nb = s.h.nb := by simp only [trimS, h, if_true]
      have ens : (trimS s.h.nb s1).h.ns = s1.h.ns := by simp only [trimS, h, if_true]
      have esl : ∀ k, (trimS s.h.nb s1).h.slot k = s1.h.slot k := fun k => by simp only [trimS, h, if_true, Heap.slot]
      exact {
        mok := g1.mok.cut _ _
        glob := fun k hk => hle.box _ _ (g0.glob k hk)
        gle := by rw [enb]; exact g0.gle
        nbeq := by rw [enb]; rfl
        nseq := by rw [ens]; rfl
        hok := hok
        fbox := fun n hn => by rw [enb] at hn; simp only [Mp.cut]; rw [if_neg (by omega)]
        fslot := fun n hn => by rw [ens] at hn; simp only [Mp.cut]; rw [if_neg (by omega)]
        boxes := fun n o hT hg => by
          rw [trim_get h] at hg
          split at hg
          · rename_i hlt
            obtain ⟨b, hb, ho⟩ := g1.boxes n o hT hg
            refine ⟨b, by simp [Mp.cut, hlt, hb], ho.cut g0.gle (t.boxes o ?_)⟩
            simp only [Heap.get] at hg
            split at hg
            · have e : s1.h.nb - 1 - n = (s1.h.nb - s.h.nb) + (s.h.nb - 1 - n) := by have := t.lt; omega
              rw [e, ← List.getElem?_drop] at hg
              exact List.mem_of_getElem? hg
            · cases hg
          · cases hg
        slots := fun k x hT hg => by
          rw [esl] at hg
          have hs := g1.slots k x hT hg
          have hlt : k < s1.h.ns := slot_lt g1.hok hg
          refine hs.cut g0.gle hlt fun sz xs hx => ?_
          exact t.live _ (lookup_mem hg) sz xs hx }
    · intro i
      have e : (trimS s.h.nb s1).env.get i = if (s1.env.get i).nf s.h.nb s1.h.ns then s1.env.get i else .junk := by
        simp only [trimS, h, if_true, Env.get, List.getD_eq_getElem?_getD, List.getElem?_map]
        cases s1.env[i]? with
        | none => simp
        | some v => simp
      rw [e]
      split
      · rename_i hn; exact (sr1.env i).cut g0.gle hn
      · exact .junk
    · have e : (trimS s.h.nb s1).ds = s1.ds := by simp only [trimS, h, if_true]
      rw [e]
      exact sr1.ds.cut g0.gle t.ds
  · have e : trimS s.h.nb s1 = s1 := by simp only [trimS, h]; rfl
    rw [e]
    exact ⟨M1, sr1, st⟩

theorem BodyOk.trim {nt : Nat} {rnd : Option Nat} {c : Code} {β : St → Option (Ex × St)} (hb : BodyOk P Q nt rnd c β) (hfr : BFr β) : BodyOk P Q nt rnd c (fun s => trimR s.h.nb (β s)) := by
  intro T W D b k cs M w s s' a ex hr sr e cv
  cases h : β s with
  | none => simp only [h, trimR] at e; cases e
  | some r =>
    obtain ⟨ex1, s1⟩ := r
    simp only [h, trimR] at e
    cases e
    have f := hfr _ _ _ h
    have cv1 : Cov T W s1.h := by
      by_cases hc : canTrim s.h.nb s1 = true
      · have e1 : (trimS s.h.nb s1).h.t = s1.h.t := by simp only [trimS, hc, if_true]
        have e2 : (trimS s.h.nb s1).h.w = s1.h.w := by simp only [trimS, hc, if_true]
        have e3 : (trimS s.h.nb s1).h.base = s1.h.base := by simp only [trimS, hc, if_true]
        have e4 : (trimS s.h.nb s1).h.sbase = s1.h.sbase := by simp only [trimS, hc, if_true]
        exact ⟨fun l hl => cv.t l (by rw [e1]; exact hl), fun l hl => cv.w l (by rw [e2]; exact hl), fun n hn => cv.ownb n (by rw [e3]; exact hn), fun n hn => cv.owns n (by rw [e4]; exact hn)⟩
      · have e : trimS s.h.nb s1 = s1 := by simp only [trimS, hc]; rfl
        rw [e] at cv; exact cv
    obtain ⟨M1, w1, a1, sr1, st1, l1⟩ := hb T W D b k cs M w s s1 a _ hr sr h cv1
    obtain ⟨M2, sr2, st2⟩ := trim_rel sr f sr1 st1
    exact ⟨M2, w1, a1, sr2, st2, l1⟩

theorem trC_region {own : Bool} {id : Nat} {ops : Array Oper} {d : Bool} {nt : Nat} (hd : dstOk nt (trC P own (.region id ops d)) = true) :
    (trC P own (.region id ops d) = .bad) ∨ ∃ as, trC P own (.region id ops d) = .region d as ∧ TrOs P nt ops as ∧ (d = true → drawOk ops (Region.before ops) as = true) := by
  simp only [trC] at hd ⊢
  split at hd
  · rename_i hc
    rw [if_pos hc]
    right
    refine ⟨_, rfl, ?_, fun h => ?_⟩
    · exact trOpers_ok hd
    · subst h
      simpa using hc
  · rename_i hc
    rw [if_neg hc]
    exact .inl rfl

/-- frames over functions, entered as a call: the first step of 'for .. := range f' -/
theorem st_rfunc {b : Frame} {a : Act} {k : List Item} {cs : List Frame} {w w1 w' : World} {g : Operand} {ps : Array Tmp} {as bd : Code} {l f : Nat} {mark : List Deferred} {vs : Array Value} {c : Value}
    (hf : a.eval g = .func (.func f) #[] vs)
    (he : (Instr.enterLoop b.fn a.tmps ps as bd b.roundOf).run P w = .ok (l, mark) w1)
    (hn : NextVal ⟨fat b { a with defers := mark ++ a.defers } (.inRangeFunc l :: k), cs, rfl⟩ P (callFunc f (#[.func (.yield l) #[] #[]] ++ vs)) w1 c w') :
    Steps P (lone (fat b a (.code (.rangeFunc g ps as bd) :: k)) cs w) (lone (fat b { a with defers := mark ++ a.defers } (.endRangeFunc l :: k)) cs w') := by
  have hev := fat_eval b { a with defers := mark ++ a.defers } (.inRangeFunc l :: k)
  simp only [fat] at hev
  have hf' : ({ a with defers := mark ++ a.defers } : Act).eval g = .func (.func f) #[] vs := by
    rw [← hf]; cases g <;> rfl
  have hfin : ∀ v, (fat b { a with defers := mark ++ a.defers } (.inRangeFunc l :: k)).finish v = fat b { a with defers := mark ++ a.defers } (.endRangeFunc l :: k) := fun v => by
    simp [Frame.finish, fat]
  have hinv : ∀ W, ((resolve ({ a with defers := mark ++ a.defers } : Act).eval { callee := .value g, args := #[.const (.func (.yield l) #[] #[])], argTypes := #[] } 0).bind fun d => invoke d.target d.args).run P W =
      (callFunc f (#[.func (.yield l) #[] #[]] ++ vs)).run P W := by
    intro W
    have : (#[Operand.const (.func (.yield l) #[] #[])].map ({ a with defers := mark ++ a.defers } : Act).eval) = #[.func (.yield l) #[] #[]] := by simp [Act.eval]
    show Sem.run P (Bind.bind _ _) W = _
    simp only [resolve, this, hf', Deferred.ofValue, Sem.run_bind, Sem.run_pure, Result.andThen_ok, invoke, Array.empty_append]
  have hstep : ∀ fr' cs' W', (stepG.apply P true (fat b { a with defers := mark ++ a.defers } (.inRangeFunc l :: k)) cs none
      ((resolve ({ a with defers := mark ++ a.defers } : Act).eval { callee := .value g, args := #[.const (.func (.yield l) #[] #[])], argTypes := #[] } 0).bind fun d => invoke d.target d.args) w1).bare =
        .go { frame := fr', callers := cs', status := .running, dying := none } W' →
      step P (lone (fat b a (.code (.rangeFunc g ps as bd) :: k)) cs w) = .next (lone fr' cs' W') := by
    intro fr' cs' W' h
    refine step_lone_go ?_
    rw [← h]
    have he' := he
    simp only [fat] at *
    simp only [stepG, stepG.exec, Sem.runT_eq, he', GStep.bare_after, hev]
    rfl
  cases hn with
  | value h =>
    refine .one (hstep _ _ _ ?_)
    simp [stepG.apply, Sem.runT_eq, hinv, h, GStep.bare_after, fat, Frame.finish]
  | skip h =>
    refine .one (hstep _ _ _ ?_)
    simp [stepG.apply, Sem.runT_eq, hinv, h, GStep.bare_after, fat, Frame.finish]
  | @enter f2 args w2 _ _ h ent =>
    refine Steps.head (m₁ := lone (Frame.enter P f2 args .normal) (fat b { a with defers := mark ++ a.defers } (.inRangeFunc l :: k) :: cs) w2) (hstep _ _ _ ?_) ?_
    · simp [stepG.apply, Sem.runT_eq, hinv, h, GStep.bare_after, fat]
    · simpa only [hfin] using ent
  | @round l2 f2 tmps as2 bd2 w2 _ _ h ent =>
    refine Steps.head (m₁ := lone (Frame.round l2 f2 tmps as2 bd2 .normal) (fat b { a with defers := mark ++ a.defers } (.inRangeFunc l :: k) :: cs) w2) (hstep _ _ _ ?_) ?_
    · simp [stepG.apply, Sem.runT_eq, hinv, h, GStep.bare_after, fat]
    · simpa only [hfin] using ent

theorem loop_at {G : Nat} {T : Loc → Prop} {M : Mp} {h : Heap} {w : World} (g : Good P G T M h w) {l : Nat} {env : Env} {ps : List Nat} {as bd : ACode} {st : LState} {p : Option Ex} (hT : T (.b l))
    (hg : h.get l = some (.loop env ps as bd st p)) : ∃ v r, M.box l = some v ∧ w.heap[v]? = some (.loop r) ∧ ORel P G M w v (.loop env ps as bd st p) := by
  obtain ⟨v, h1, h2⟩ := g.boxes l _ hT hg
  have h3 := h2
  obtain ⟨r, own, h4, _⟩ := h3
  exact ⟨v, r, h1, h4, h2⟩

/-- a loop's record is written -/
theorem loop_put {G : Nat} {T W : Loc → Prop} {M : Mp} {h : Heap} {w : World} (g : Good P G T M h w) {l v : Nat} {o o' : Obj} {r : Loop} (hb : M.box l = some v) (hg : h.get l = some o) {r0 : Loop} (h0 : w.heap[v]? = some (.loop r0)) (hW : W (.b l))
    (ho : ORel P G M (w.putObj v (.loop r)) v o') (hd : o' ≠ .dead) : Good P G T M ((h.wr l).put l o') (w.putObj v (.loop r)) ∧ Stp W M w M (w.putObj v (.loop r)) :=
  ⟨Good.put (g.wr l) hb (by simpa using hg) (g.mok.nopin h0 (by simp)) (OneBlock.setObj w v _) o' ho hd, Stp.put hW hb (OneBlock.setObj w v _)⟩

theorem MarkOk.lt {M : Mp} {w : World} {r : Nat} (h : MarkOk M w r) : r < w.heap.size := by
  rcases Nat.lt_or_ge r w.heap.size with h' | h'
  · exact h'
  · have := h.1; simp [Array.getElem?_eq_none h'] at this

theorem addMark {Q : AProg} {G D : Nat} {T : Loc → Prop} {M : Mp} {h : Heap} {w : World} (g : Good P G T M h w) {ds : List AD} {Ds : List Deferred} (hds : DRel P Q D M w ds Ds) (hD : D ≤ w.heap.size) :
    DRel P Q D M (w.alloc (.deferred (some []))) (.mark :: ds) ({ target := .collected w.heap.size, args := #[] } :: Ds) :=
  .mark ⟨alloc_heap_new _, fun n hn => by have := g.mok.boxlt n _ hn; omega, fun s r hr e => by have := g.mok.slotlt s r hr; omega⟩ hD
    (fun d hd r' hr' => by have := (hds.marks d hd r' hr').lt; omega) (hds.stp (Stp.alloc (fun _ => False) M w _))

end
end Am

namespace Am
open Go Go.Lib

section
variable {P : Program} {Q : AProg} {K : CallF}

theorem rfunc_ok (hK : KOk P Q.G K) {nt : Nat} {rnd : Option Nat} {own : Bool} {fo : Operand} {ps : Array Tmp} {ca cb : Code} {fA : AO} (hf : trO P fo = some fA)
    (hd : dstOk nt (.rfunc fA ps.toList (trC P own ca) (trC P own cb)) = true) (it : Iter) :
    BodyOk P Q nt rnd (.rangeFunc fo ps ca cb) (evalC Q K it rnd (.rfunc fA ps.toList (trC P own ca) (trC P own cb))) := by
  intro T W D b k cs M w s s' a ex hr sr e cv
  simp only [dstOk, Bool.and_eq_true, List.all_eq_true, decide_eq_true_eq] at hd
  obtain ⟨⟨hd1, hd2⟩, hd3⟩ := hd
  simp only [evalC] at e
  split at e
  · rename_i hrnd
    have hx := ev_rel sr.good.glob sr.env hf
    generalize hxe : fA.ev s.env = x at e hx
    generalize hce : a.eval fo = cf at hx
    cases x
    case func g cl =>
      cases hx with | @func _ _ vs hl hcc =>
      have hent : ∃ lm mark wa r, (Instr.enterLoop b.fn a.tmps ps ca cb b.roundOf).run P w = .ok (lm, mark) (wa.alloc (.loop r)) ∧ lm = wa.heap.size ∧ Good P Q.G T M s.h wa ∧ Stp W M w M wa ∧
          r.tmps = a.tmps ∧ r.params = ps ∧ r.assign = ca ∧ r.body = cb ∧ r.state = .ready ∧ r.pending = none ∧
          DRel P Q D M wa (if rnd.isSome then s.ds else .mark :: s.ds) (mark ++ a.defers) := by
        cases rnd with
        | none =>
          have hb : b.roundOf = none := hr
          rw [hb]
          exact ⟨_, _, w.alloc (.deferred (some [])), _, run_enterLoop_outer _ _ _ _ _, by simp, sr.good.alloc _, Stp.alloc W M w _, rfl, rfl, rfl, rfl, rfl, rfl, addMark sr.good sr.ds sr.fl⟩
        | some l0 =>
          obtain ⟨hT0, v0, hb0, hro⟩ := hr
          simp only [rndOk] at hrnd
          split at hrnd
          · rename_i hg0
            obtain ⟨v, r, hv, hheap, _⟩ := loop_at sr.good hT0 hg0
            rw [hb0] at hv; cases hv
            rw [hro]
            exact ⟨_, _, w, _, enterLoop_in hheap _ _ _ _ _, rfl, sr.good, .refl W M w, rfl, rfl, rfl, rfl, rfl, rfl, sr.ds⟩
          · cases hrnd
      obtain ⟨lm, mark, wa, r, hrun, rfl, ga, sta, hrt, hrp, hra, hrb, hrs, hrpend, hds⟩ := hent
      split at e
      · rename_i rv h' hcall
        have hbox : (M.addBox s.h.nb wa.heap.size).box s.h.nb = some wa.heap.size := by simp [Mp.addBox]
        have hle : M.Le (M.addBox s.h.nb wa.heap.size) := Mp.addBox_le (sr.good.fbox _ (Nat.le_refl _))
        have g1 : Good P Q.G T (M.addBox s.h.nb wa.heap.size) (s.h.push (.loop s.env ps.toList (trC P own ca) (trC P own cb) .ready none)) (wa.alloc (.loop r)) := by
          refine Good.addBox ga _ _ ?_ (by simp)
          refine ⟨r, own, alloc_heap_new _, ?_, by rw [hrp], by rw [hra], by rw [hrb], by rw [hrs]; trivial, by rw [hrpend]; trivial, ?_, ?_, ?_⟩
          · rw [hrt]; exact ERel.mono hle sr.env
          · rw [hrt, sr.size]; exact hd2
          · rw [hrt, sr.size]; exact hd3
          · rw [hrt, sr.size]; exact hd1
        have st1 : Stp W M w (M.addBox s.h.nb wa.heap.size) (wa.alloc (.loop r)) := sta.trans (Stp.addBox W (sr.good.fbox _ (Nat.le_refl _)) (by rw [sr.good.nbeq]) _)
        have hfin : ∀ (s'' : St) (e' : Env) (ps' : List Nat) (a' b' : ACode) (st : LState) (p : Option Ex), h'.get s.h.nb = some (.loop e' ps' a' b' st p) → st ≠ .busy →
            s'' = { s with h := (h'.wr s.h.nb).put s.h.nb (.loop e' ps' a' b' .done p), ds := if rnd.isSome then s.ds else .mark :: s.ds } → Cov T W s''.h →
            ∀ ex, (match p with | none => ex = Ex.norm | some ex' => ex = ex') → WorkOk P Q T W D nt b (.code (.rangeFunc fo ps ca cb)) k cs M w a s'' ex := by
          intro s'' e' ps' a' b' st p hg hnb hs'' cv'' ex hex
          subst hs''
          have cvp : Cov T W (h'.wr s.h.nb) := cv''.of_grow (Grow.put _ _ _)
          have cvh : Cov T W h' := cvp.of_grow (Grow.wr _ _)
          have hTW := cvp.of_wr
          have hL : LRel P Q.G (M.addBox s.h.nb wa.heap.size) (.yield s.h.nb :: cl) (#[.func (.yield wa.heap.size) #[] #[]] ++ vs) := by
            have := LRel.append (LRel.cons (.yield hbox) (.nil (P := P) (G := Q.G) (M := M.addBox s.h.nb wa.heap.size))) (LRel.mono hle ⟨hl, hcc⟩)
            simpa using this
          obtain ⟨c, w2, M2, hnext, g2, st2, _⟩ := hK ⟨fat b { a with defers := mark ++ a.defers } (.inRangeFunc wa.heap.size :: k), cs, rfl⟩ (.fn g) _ _ _ _ hcall T W _ _ _ hL g1 cvh
          have hbox2 := st2.le.box _ _ hbox
          obtain ⟨v, r2, hv, hheap, ho⟩ := loop_at g2 hTW.1 hg
          rw [hbox2] at hv; cases hv
          obtain ⟨r3, own3, k1, k2, k3, k4, k5, k6, k7, k8⟩ := ho
          rw [hheap] at k1; cases k1
          have hne : r2.state ≠ .busy := by
            cases st with
            | ready => cases hs : r2.state <;> rw [hs] at k6 <;> simp [StRel] at k6 ⊢
            | busy => exact absurd rfl hnb
            | done => cases hs : r2.state <;> rw [hs] at k6 <;> simp [StRel] at k6 ⊢
          have hend := run_endLoop (P := P) hheap hne
          obtain ⟨g3, st3⟩ := loop_put (o' := .loop e' ps' a' b' .done p) (r := { r2 with state := .exhausted }) g2 hbox2 hg hheap hTW.2
            ⟨{ r2 with state := .exhausted }, own3, by simp [World.putObj, g2.mok.boxlt _ _ hbox2], k2, k3, k4, k5, trivial, k7, k8⟩ (by simp)
          have stAll := (st1.trans st2).trans st3
          have hsteps : FS P cs b a (.code (.rangeFunc fo ps ca cb) :: k) w { a with defers := mark ++ a.defers } (.endRangeFunc wa.heap.size :: k) w2 := st_rfunc (b := b) (a := a) (k := k) (cs := cs) hce hrun hnext
          have hsteps2 := hsteps.trans (.one (show step P (lone (fat b { a with defers := mark ++ a.defers } (.endRangeFunc wa.heap.size :: k)) cs w2) =
              .next (lone (fat b { a with defers := mark ++ a.defers } ((r2.pending.map Item.code).toList ++ k)) cs _) from
            stepR_endRangeFunc (b := b) (a := { a with defers := mark ++ a.defers }) (k := k) (cs := cs) hend))
          have hsize : wa.heap.size ≤ w2.heap.size := Nat.le_trans (by simp) st2.size
          refine ⟨M2, _, { a with defers := mark ++ a.defers }, ⟨g3, fun i => (sr.env i).mono stAll.le, sr.size, ?_, ?_⟩, stAll, ?_⟩
          · have := hds.stp (((Stp.addBox W (sr.good.fbox _ (Nat.le_refl _)) (by rw [sr.good.nbeq]) _).trans st2).trans st3)
            exact this
          · exact Nat.le_trans sr.fl stAll.size
          · cases p with
            | none =>
              cases hq : r2.pending with
              | some c2 => rw [hq] at k7; simp [PendRel] at k7
              | none => rw [hq] at hsteps2; subst hex; exact hsteps2
            | some ex' =>
              subst hex
              cases hq : r2.pending with
              | none => rw [hq] at k7; cases ex <;> simp [PendRel] at k7
              | some c2 =>
                rw [hq] at k7 hsteps2
                cases ex with
                | norm => cases c2 <;> simp [PendRel] at k7
                | exit id =>
                  cases c2 <;> simp only [PendRel] at k7
                  subst k7
                  exact ⟨k, rfl, hsteps2⟩
                | ret =>
                  cases c2 <;> simp only [PendRel] at k7
                  exact ⟨k, hsteps2⟩
        split at e
        · cases e
        · rename_i e' ps' a' b' st p hnb hg
          split at e
          · cases e; exact hfin _ e' ps' a' b' st none hg hnb rfl cv _ rfl
          · cases e; exact hfin _ e' ps' a' b' st _ hg hnb rfl cv _ rfl
        · cases e
      · cases e
    all_goals simp at e
  · cases e

theorem evalC_ok (hm : P.follows .mixedOrders = true) (hK : KOk P Q.G K) (hKF : KFr K) (n : Nat) (own : Bool) (nt : Nat) (rnd : Option Nat) :
    ∀ (c : Code), dstOk nt (trC P own c) = true → BodyOk P Q nt rnd c (evalC Q K (iterN n) rnd (trC P own c))
  | .skip, _ => fun T W D b k cs M w s s' a ex hr sr e cv => by
    simp only [trC, evalC] at e; cases e
    exact ⟨M, w, a, sr, .refl W M w, .one st_skip⟩
  | .label l, _ => fun T W D b k cs M w s s' a ex hr sr e cv => by
    simp only [trC, evalC] at e; cases e
    exact ⟨M, w, a, sr, .refl W M w, .one st_label⟩
  | .region id ops d, hd => fun T W D b k cs M w s s' a ex hr sr e cv => by
    rcases trC_region hd with h | ⟨as, h1, h2, h3⟩
    · rw [h] at e; simp [evalC] at e
    · rw [h1] at e
      cases d with
      | false =>
        simp only [evalC] at e
        split at e
        · rename_i h4
          cases e
          obtain ⟨M', w', a', sr', st', run⟩ := ops_ok hK hKF hr.none k cs h2 as 0 (by simp) (by rw [h2.1]; omega) sr h4 cv
          refine ⟨M', w', a', sr', st', FS.head (st_region) ?_⟩
          have : List.range ops.size = List.range' 0 as.length := by rw [h2.1, List.range_eq_range']
          rw [this]
          exact run.trans (.one st_region_end)
        · cases e
      | true =>
        simp only [evalC] at e
        split at e
        · rename_i h4
          cases e
          exact draw_ok hm hK hKF (h3 rfl) h2 sr h4 cv b id k cs
        · cases e
  | .seq x y, hd => fun T W D b k cs M w s s' a ex hr sr e cv => by
    simp only [trC, dstOk, Bool.and_eq_true] at hd
    have hx := evalC_ok hm hK hKF n own nt rnd x hd.1
    have hy := evalC_ok hm hK hKF n own nt rnd y hd.2
    simp only [trC, evalC] at e
    split at e
    · rename_i s1 h1
      have f2 := evalC_fr hKF (iterN_fr n) (trC P own y) _ _ _ e
      obtain ⟨M1, w1, a1, sr1, st1, l1⟩ := hx T W D b (.code y :: k) cs M w s s1 a .norm hr sr h1 (cv.of_grow f2.toGrow)
      obtain ⟨M2, w2, a2, sr2, st2, l2⟩ := hy T W D b k cs M1 w1 s1 s' a1 ex (hr.mono st1.le) sr1 e cv
      exact ⟨M2, w2, a2, sr2, st1.trans st2, .pre (FS.head (st_seq) l1) l2⟩
    · rename_i hne
      obtain ⟨M1, w1, a1, sr1, st1, l1⟩ := hx T W D b (.code y :: k) cs M w s s' a ex hr sr e cv
      refine ⟨M1, w1, a1, sr1, st1, ?_⟩
      cases ex with
      | norm => exact absurd e (hne _)
      | exit id => obtain ⟨k2, h1, h2⟩ := l1; exact ⟨k2, by rw [h1]; rfl, FS.head (st_seq) h2⟩
      | ret => obtain ⟨k2, h2⟩ := l1; exact ⟨k2, FS.head (st_seq) h2⟩
  | .cond c x y, hd => fun T W D b k cs M w s s' a ex hr sr e cv => by
    simp only [trC] at hd e
    split at hd
    · rename_i cA hc
      simp only [hc] at e
      simp only [dstOk, Bool.and_eq_true] at hd
      have hx := evalC_ok hm hK hKF n own nt rnd x hd.1
      have hy := evalC_ok hm hK hKF n own nt rnd y hd.2
      have hv := ev_rel sr.good.glob sr.env hc
      simp only [evalC] at e
      split at e
      · rename_i hb
        rw [hb] at hv
        obtain ⟨M1, w1, a1, sr1, st1, l1⟩ := hx T W D b k cs M w s s' a ex hr sr e cv
        exact ⟨M1, w1, a1, sr1, st1, .pre (.one (st_cond (vr_bool hv))) l1⟩
      · rename_i hb
        rw [hb] at hv
        obtain ⟨M1, w1, a1, sr1, st1, l1⟩ := hy T W D b k cs M w s s' a ex hr sr e cv
        exact ⟨M1, w1, a1, sr1, st1, .pre (.one (st_cond (vr_bool hv))) l1⟩
      · cases e
    · rename_i hc
      simp only [hc] at e
      simp [evalC] at e
  | .block id c, hd => fun T W D b k cs M w s s' a ex hr sr e cv => by
    simp only [trC, dstOk] at hd
    have hx := evalC_ok hm hK hKF n own nt rnd c hd
    simp only [trC, evalC] at e
    split at e
    · rename_i id' s1 h1
      split at e
      · rename_i hid
        cases e
        obtain ⟨M1, w1, a1, sr1, st1, k2, h2, h3⟩ := hx T W D b (.inBlock id :: k) cs M w s _ a (.exit id') hr sr h1 cv
        refine ⟨M1, w1, a1, sr1, st1, (FS.head (st_block) h3).trans (.one (st_exit ?_))⟩
        rw [h2]; subst hid; simp [exitTo]
      · rename_i hid
        cases e
        obtain ⟨M1, w1, a1, sr1, st1, k2, h2, h3⟩ := hx T W D b (.inBlock id :: k) cs M w s _ a (.exit id') hr sr h1 cv
        refine ⟨M1, w1, a1, sr1, st1, k2, ?_, FS.head (st_block) h3⟩
        rw [h2]; simp [exitTo, Ne.symm hid]
    · rename_i hne
      obtain ⟨M1, w1, a1, sr1, st1, l1⟩ := hx T W D b (.inBlock id :: k) cs M w s s' a ex hr sr e cv
      refine ⟨M1, w1, a1, sr1, st1, ?_⟩
      cases ex with
      | norm => exact (FS.head (st_block) l1).trans (.one st_inBlock)
      | exit id' => exact absurd e (hne _ _)
      | ret => obtain ⟨k2, h2⟩ := l1; exact ⟨k2, FS.head (st_block) h2⟩
  | .loop c, hd => fun T W D b k cs M w s s' a ex hr sr e cv => by
    simp only [trC, dstOk] at hd
    have hx := evalC_ok hm hK hKF n own nt rnd c hd
    simp only [trC, evalC] at e
    have hfr := evalC_fr (Q := Q) (rnd := rnd) hKF (iterN_fr n) (trC P own c)
    obtain ⟨M1, w1, a1, sr1, st1, l1⟩ := loop_ok (hx.trim hfr) (trimR_fr hfr) n T W D b k cs M w s s' a ex hr sr e cv
    exact ⟨M1, w1, a1, sr1, st1, .pre (.one st_loop) l1⟩
  | .rangeFunc fo ps ca cb, hd => by
    simp only [trC] at hd ⊢
    split at hd
    · rename_i fA hf
      exact rfunc_ok hK hf hd (iterN n)
    · rename_i hf
      intro T W D b k cs M w s s' a ex hr sr e cv
      simp [evalC] at e
  | .exit id, _ => fun T W D b k cs M w s s' a ex hr sr e cv => by
    simp only [trC, evalC] at e; cases e
    exact ⟨M, w, a, sr, .refl W M w, k, rfl, .refl P cs b _ _ _⟩
  | .scope c, hd => fun T W D b k cs M w s s' a ex hr sr e cv => by
    simp only [trC, dstOk] at hd
    have hx := evalC_ok hm hK hKF n own nt rnd c hd
    simp only [trC, evalC] at e
    obtain ⟨M1, w1, a1, sr1, st1, l1⟩ := hx T W D b (.inScope c :: k) cs M w s s' a ex hr sr e cv
    refine ⟨M1, w1, a1, sr1, st1, ?_⟩
    cases ex with
    | norm => exact (FS.head (st_scope) l1).trans (.one st_inScope)
    | exit id' => obtain ⟨k2, h1, h2⟩ := l1; exact ⟨k2, by rw [h1]; rfl, FS.head (st_scope) h2⟩
    | ret => obtain ⟨k2, h2⟩ := l1; exact ⟨k2, FS.head (st_scope) h2⟩
  | .ret, _ => fun T W D b k cs M w s s' a ex hr sr e cv => by
    simp only [trC, evalC] at e; cases e
    exact ⟨M, w, a, sr, .refl W M w, k, .refl P cs b _ _ _⟩
  | .goto l, _ => fun T W D b k cs M w s s' a ex hr sr e cv => by simp [trC, evalC] at e
  | .refuse x, _ => fun T W D b k cs M w s s' a ex hr sr e cv => by simp [trC, evalC] at e
end
end Am
end
section
namespace Am
open Go Go.Lib

/-- what the abstract machine takes of the program -/
structure AOk (P : Program) (cfg : TrCfg) (Q : AProg) : Prop where
  mixed : P.follows .mixedOrders = true
  gl : P.globals.size ≤ Q.G
  codes : ∀ f c, Q.codes f = some c → trF P cfg f = some c
  prims : ∀ f p, Q.codes f = some (.prim p) → ∀ args h v h', Q.prims p args h = some (v, h') → ∀ (T W : Loc → Prop) (M : Mp) (w : World) (cargs : Array Value), LRel P Q.G M args cargs → Good P Q.G T M h w → Cov T W h' →
    ∀ X : Ctx, OpRes X P Q.G T W M w v h' (callFunc f cargs)
  pfr : PrimsFr Q

section
variable {P : Program} {Q : AProg} {K : CallF} {G : Nat}

/-- the log of a callee, seen from its caller -/
theorem cov_callee {T W : Loc → Prop} {h h1 h' : Heap} (k : HOk h) (ht : h'.t = filt h.base h.sbase h1.t ++ h.t) (hb : h'.base = h.base) (hs : h'.sbase = h.sbase) (b1 : h1.base = h.nb) (s1 : h1.sbase = h.ns) (cv : Cov T W h') :
    Cov T (LogW h h1) h1 where
  t := fun l hl => by
    by_cases hlow : (match l with | .b n => n < h.base | .s n => n < h.sbase)
    · exact cv.t l (by rw [ht]; exact List.mem_append_left _ (mem_filt.2 ⟨hl, hlow⟩))
    · cases l with
      | b n => simp only at hlow; exact (cv.ownb n (by omega)).1
      | s n => simp only at hlow; exact (cv.owns n (by omega)).1
  w := fun l hl => .inl hl
  ownb := fun n hn => ⟨(cv.ownb n (by have := k.base; omega)).1, .inr (by simp only; omega)⟩
  owns := fun n hn => ⟨(cv.owns n (by have := k.sbase; omega)).1, .inr (by simp only; omega)⟩

theorem logW_W {T W : Loc → Prop} {h h1 h' : Heap} (k : HOk h) (hw : ∀ l, l ∈ h1.w → (match l with | .b n => n < h.base | .s n => n < h.sbase) → l ∈ h'.w) (hb : h'.base = h.base) (hs : h'.sbase = h.sbase) (cv : Cov T W h') :
    ∀ l, LogW h h1 l → W l := by
  intro l hl
  rcases hl with hl | hl
  · by_cases hlow : (match l with | .b n => n < h.base | .s n => n < h.sbase)
    · exact cv.w l (hw l hl hlow)
    · cases l with
      | b n => simp only at hlow; exact (cv.ownb n (by omega)).2
      | s n => simp only at hlow; exact (cv.owns n (by omega)).2
  · cases l with
    | b n => simp only at hl; exact (cv.ownb n (by have := k.base; omega)).2
    | s n => simp only at hl; exact (cv.owns n (by have := k.sbase; omega)).2

theorem popH_log {h h1 h' : Heap} {r v : AV} (e : popH h h1 r = some (v, h')) : h'.t = filt h.base h.sbase h1.t ++ h.t ∧ h'.base = h.base ∧ h'.sbase = h.sbase ∧
    ∀ l, l ∈ h1.w → (match l with | .b n => n < h.base | .s n => n < h.sbase) → l ∈ h'.w := by
  unfold popH at e
  simp only at e
  split at e
  · rename_i hw
    split at e
    · cases e; exact ⟨rfl, rfl, rfl, fun l hl => by rw [hw] at hl; cases hl⟩
    · cases e
  · split at e
    · cases e; exact ⟨rfl, rfl, rfl, fun l hl hlow => List.mem_append_left _ (mem_filt.2 ⟨hl, hlow⟩)⟩
    · cases e

theorem Good.enter {T : Loc → Prop} {M : Mp} {h : Heap} {w : World} (g : Good P G T M h w) : Good P G T M (enterH h) w :=
  ⟨g.mok, g.glob, g.gle, g.nbeq, g.nseq, ⟨g.hok.len, g.hok.live, Nat.le_refl _, Nat.le_refl _⟩, g.fbox, g.fslot, g.boxes, g.slots⟩

/-! ### rounds -/

theorem setMany_rel {T : Loc → Prop} {M : Mp} : ∀ {ps : List Nat} {args : List AV} {env : Env} {tmps : Array Value} {cs : List Value}, ERel P G M env tmps → F2 (VRel P G M) args cs → (∀ p ∈ ps, p < tmps.size) → args.length = ps.length →
    ERel P G M (setMany env ps args) ((ps.zip cs).foldl (fun t x => t.setIfInBounds x.1 x.2) tmps) ∧ ((ps.zip cs).foldl (fun t x => t.setIfInBounds x.1 x.2) tmps).size = tmps.size
  | [], args, env, tmps, cs, he, hf, hp, hl => by
    cases args with
    | nil => exact ⟨he, rfl⟩
    | cons => simp at hl
  | p :: ps, args, env, tmps, cs, he, hf, hp, hl => by
    cases hf with
    | nil => simp at hl
    | @cons a c as cs' h1 h2 =>
      have he' : ERel P G M (env.set p a) (tmps.setIfInBounds p c) := by
        have := ERel.set (a := ⟨tmps, []⟩) he (d := some p) (fun n hn => by cases hn; exact hp p (List.mem_cons_self ..)) h1
        exact this
      have := setMany_rel (T := T) he' h2 (fun q hq => by simpa using hp q (List.mem_cons_of_mem _ hq)) (by simpa using hl)
      simp only [setMany, List.zip_cons_cons, List.foldl_cons]
      exact ⟨this.1, by rw [this.2]; simp⟩

theorem zip_foldl {α : Type} (ps : Array Nat) (cs : Array Value) (f : α → Nat × Value → α) (x : α) : (ps.zip cs).foldl f x = (ps.toList.zip cs.toList).foldl f x := by
  rw [← Array.foldl_toList, Array.toList_zip]

/-- a round's frame is left: yield hands back whether it goes on -/
theorem round_leave {b : Frame} {a : Act} {v : Nat} {r : Loop} {w : World} (hb : b.roundOf = some v) (hh : w.heap[v]? = some (.loop r)) {kind : CallKind} (hk : b.kind = kind) {fr : Frame} {cs : List Frame}
    (hm : (kind = .normal ∧ fr.mode = .run) ∨ (kind = .deferred ∧ fr.mode = .returning)) {todo : List Item} {jump : Option Code}
    (ht : (todo = [] ∧ jump = none) ∨ (∃ k2, todo = .code .ret :: k2 ∧ jump = some .ret) ∨ (∃ id k2, todo = .code (.exit id) :: k2 ∧ exitTo id k2 = none ∧ jump = some (.exit id))) :
    step P (lone (fat b a todo) (fr :: cs) w) = .next (lone (match (generalizing := false) kind with | .normal => fr.finish (.bool jump.isNone) | _ => fr) cs (w.putObj v (.loop { r with state := if jump.isNone then .ready else .done, pending := jump }))) := by
  have hr := run_endRound (P := P) jump hh
  rcases ht with ⟨rfl, rfl⟩ | ⟨k2, rfl, rfl⟩ | ⟨id, k2, rfl, hx, rfl⟩ <;> rcases hm with ⟨rfl, hm⟩ | ⟨rfl, hm⟩ <;>
    refine step_lone_go ?_ <;> simp_all [stepG, stepG.exec, fat, Sem.runT_eq, GStep.bare_after, doReturn]

theorem yield_ok (hP : P.follows .mixedOrders = true) (hK : KOk P Q.G K) (hKF : KFr K) (n : Nat) {l : Nat} {args : List AV} {h h' : Heap} {v : AV} (e : bodyA Q K (iterN n) (.yield l) args h = some (v, h'))
    {T W : Loc → Prop} {M : Mp} {w : World} {cargs : Array Value} (hL : LRel P Q.G M args cargs) (g : Good P Q.G T M h w) (cv : Cov T W h') {bl : Nat} (hbl : M.box l = some bl) (X : Ctx) :
    OpRes X P Q.G T W M w v h' (Instr.yield bl cargs) := by
  simp only [bodyA, bodyB] at e
  split at e
  · rename_i env ps aa bb p0 hg0
    split at e
    · rename_i hlen
      split at e
      · rename_i s1 h1
        split at e
        · rename_i e1 ps1 a1 b1 p1 hg1
          split at e
          · rename_i ex s2 h2
            split at e
            · rename_i e2 ps2 a2 b2 st2' p2' hg2
              -- the logs
              have f1 : Fr (enterH h) s1.h := evalC_fr hKF (iterN_fr n) _ _ _ _ h1
              have f2 := evalC_fr hKF (iterN_fr n) _ _ _ _ h2
              have he : ∃ st3 pend3 r3, ((ex = .norm ∧ st3 = LState.ready ∧ pend3 = none ∧ r3 = true) ∨ (ex ≠ .norm ∧ st3 = LState.done ∧ pend3 = some ex ∧ r3 = false)) ∧
                  popH h ((s2.h.wr l).put l (.loop e2 ps2 a2 b2 st3 pend3)) (.bool r3) = some (v, h') := by
                cases ex <;> exact ⟨_, _, _, by simp, e⟩
              clear e
              obtain ⟨st3, pend3, r3, hst, e⟩ := he
              obtain ⟨ht, hb, hs, hw⟩ := popH_log e
              have f12 : Fr (enterH h) s2.h := (f1.trans (Fr.wrPut _ (Heap.get_lt hg1) _)).trans f2
              have f123 : Fr (enterH h) ((s2.h.wr l).put l (.loop e2 ps2 a2 b2 st3 pend3)) := f12.trans (Fr.wrPut _ (Heap.get_lt hg2) _)
              have cvA : Cov T (LogW h ((s2.h.wr l).put l (.loop e2 ps2 a2 b2 st3 pend3))) ((s2.h.wr l).put l (.loop e2 ps2 a2 b2 st3 pend3)) := cov_callee g.hok ht hb hs f123.base f123.sbase cv
              have hWW := logW_W g.hok hw hb hs cv
              have cvw2 : Cov T (LogW h ((s2.h.wr l).put l (.loop e2 ps2 a2 b2 st3 pend3))) (s2.h.wr l) := cvA.of_grow (Grow.put _ _ _)
              have hTW2 := cvw2.of_wr
              have cv2 : Cov T (LogW h ((s2.h.wr l).put l (.loop e2 ps2 a2 b2 st3 pend3))) s2.h := cvw2.of_grow (Grow.wr _ _)
              have cv1p := cv2.of_grow f2.toGrow
              have cv1w : Cov T (LogW h ((s2.h.wr l).put l (.loop e2 ps2 a2 b2 st3 pend3))) (s1.h.wr l) := cv1p.of_grow (Grow.put _ _ _)
              have cv1 := cv1w.of_grow (Grow.wr _ _)
              -- the record
              obtain ⟨bl', r, hbl', hheap, r', own, k1, k2, k3, k4, k5, k6, k7, k8, k9, k10⟩ := loop_at g hTW2.1 hg0
              rw [hbl] at hbl'; cases hbl'
              rw [hheap] at k1; cases k1
              have hsz : cargs.size = r.params.size := by rw [hL.1, hlen, ← k3]; simp
              have hyield := run_yield (P := P) (args := cargs) hheap hsz
              have hset := setMany_rel (T := T) (M := M) (ps := ps) (args := args) (env := env) (tmps := r.tmps) (cs := cargs.toList) k2 (lrel_iff.1 hL) k10 hlen
              have hz : ((r.params.zip cargs).foldl (fun tmps (x : Nat × Value) => tmps.setIfInBounds x.1 x.2) r.tmps) = ((ps.zip cargs.toList).foldl (fun t x => t.setIfInBounds x.1 x.2) r.tmps) := by
                rw [zip_foldl, k3]
              rw [← hz] at hset
              -- the frame of the round
              obtain ⟨b0, hb0⟩ : ∃ b0 : Frame, b0 = Frame.round bl r.fn ((r.params.zip cargs).foldl (fun tmps (x : Nat × Value) => tmps.setIfInBounds x.1 x.2) r.tmps) r.assign r.body .normal := ⟨_, rfl⟩
              obtain ⟨A0, hA0⟩ : ∃ A0 : Act, A0 = ⟨(r.params.zip cargs).foldl (fun tmps (x : Nat × Value) => tmps.setIfInBounds x.1 x.2) r.tmps, []⟩ := ⟨_, rfl⟩
              have hro : b0.roundOf = some bl := by rw [hb0]; rfl
              have hstart : Frame.round bl r.fn ((r.params.zip cargs).foldl (fun tmps (x : Nat × Value) => tmps.setIfInBounds x.1 x.2) r.tmps) r.assign r.body .normal = fat b0 A0 [.code r.assign, .beginRound, .code r.body] := by
                rw [hb0, hA0]; rfl
              have sr0 : SRelS P Q T 0 M w r.tmps.size ⟨setMany env ps args, [], enterH h⟩ A0 := by
                rw [hA0]; exact ⟨g.enter, hset.1, hset.2, .nil, Nat.zero_le _⟩
              have hrnd : RndOk T M (some l) b0 := ⟨hTW2.1, bl, hbl, hro⟩
              rw [← k4] at h1
              have hA : dstOk r.tmps.size (trC P own r.assign) = true := by rw [k4]; exact k8
              have hB : dstOk r.tmps.size (trC P own r.body) = true := by rw [k5]; exact k9
              obtain ⟨M1, w1, A1, sr1, st1, l1⟩ := evalC_ok hP hK hKF n own r.tmps.size (some l) r.assign hA T _ 0 b0 [.beginRound, .code r.body] (X.fr :: X.cs) M w _ s1 A0 .norm hrnd sr0 h1 cv1
              have hbl1 := st1.le.box _ _ hbl
              obtain ⟨bl1, q1, hbb1, hq1, q1', own1, m1, m2, m3, m4, m5, m6, m7, m8, m9, m10⟩ := loop_at sr1.good hTW2.1 hg1
              rw [hbl1] at hbb1; cases hbb1
              rw [hq1] at m1; cases m1
              have hready : q1.state = .ready := by cases hs : q1.state <;> rw [hs] at m6 <;> simp [StRel] at m6 ⊢
              have hbegin := run_beginRound (P := P) hq1 hready
              obtain ⟨g1', st1'⟩ := loop_put (o' := .loop e1 ps1 a1 b1 .busy p1) (r := { q1 with state := .busy }) sr1.good hbl1 hg1 hq1 cv1w.of_wr.2
                ⟨{ q1 with state := .busy }, own1, by simp [World.putObj, sr1.good.mok.boxlt _ _ hbl1], m2, m3, m4, m5, trivial, m7, m8, m9, m10⟩ (by simp)
              have hs2 : FS P (X.fr :: X.cs) b0 A1 [.beginRound, .code r.body] w1 A1 [.code r.body] (w1.putObj bl (.loop { q1 with state := .busy })) := .one
                (stepR_beginRound (b := b0) (a := A1) (k := [.code r.body]) (cs := X.fr :: X.cs) hro hbegin)
              have sr1' : SRelS P Q T 0 M1 (w1.putObj bl (.loop { q1 with state := .busy })) r.tmps.size { s1 with h := (s1.h.wr l).put l (.loop e1 ps1 a1 b1 .busy p1) } A1 :=
                ⟨g1', sr1.env, sr1.size, sr1.ds.stp st1', Nat.zero_le _⟩
              have hrnd1 : RndOk T M1 (some l) b0 := hrnd.mono st1.le
              have h2' := h2
              rw [← k5] at h2'
              obtain ⟨M2, w2, A2, sr2, st2, l2⟩ := evalC_ok hP hK hKF n own r.tmps.size (some l) r.body hB T _ 0 b0 [] (X.fr :: X.cs) M1 _ _ s2 A1 ex hrnd1 sr1' h2' cv2
              have hbl2 := st2.le.box _ _ hbl1
              obtain ⟨bl2, q2, hbb2, hq2, q2', own2, u1, u2, u3, u4, u5, u6, u7, u8, u9, u10⟩ := loop_at sr2.good hTW2.1 hg2
              rw [hbl2] at hbb2; cases hbb2
              rw [hq2] at u1; cases u1
              have hfinal : ∀ (jump : Option Code), StRel st3 (if jump.isNone then .ready else .done) → PendRel pend3 jump → jump.isNone = r3 →
                  (∃ todo, FS P (X.fr :: X.cs) b0 A1 [.code r.body] (w1.putObj bl (.loop { q1 with state := .busy })) A2 todo w2 ∧
                    ((todo = [] ∧ jump = none) ∨ (∃ k2, todo = .code .ret :: k2 ∧ jump = some .ret) ∨ (∃ id k2, todo = .code (.exit id) :: k2 ∧ exitTo id k2 = none ∧ jump = some (.exit id)))) →
                  OpRes X P Q.G T W M w v h' (Instr.yield bl cargs) := by
                intro jump hst' hpd hjr hex
                obtain ⟨todo, hrun, htodo⟩ := hex
                obtain ⟨g3, st3'⟩ := loop_put (o' := .loop e2 ps2 a2 b2 st3 pend3) (r := { q2 with state := if jump.isNone then .ready else .done, pending := jump }) sr2.good hbl2 hg2 hq2 hTW2.2
                  ⟨{ q2 with state := if jump.isNone then .ready else .done, pending := jump }, own2, by simp [World.putObj, sr2.good.mok.boxlt _ _ hbl2], u2, u3, u4, u5, hst', hpd, u8, u9, u10⟩ (by simp)
                have stAll := ((st1.trans st1').trans st2).trans st3'
                obtain ⟨M', g', st', hv'⟩ := popH_ok g f123 g3 stAll (.bool (b := r3)) e
                refine ⟨.bool r3, _, M', .round hyield ?_, g', st'.mono hWW, hv'⟩
                have hleave := round_leave (P := P) (b := b0) (a := A2) (w := w2) (kind := .normal) (fr := X.fr) (cs := X.cs) (todo := todo) (jump := jump) hro hq2 (by rw [hb0]; rfl) (.inl ⟨rfl, X.run⟩) htodo
                rw [hjr] at hleave
                change Steps P (lone (Frame.round bl r.fn ((r.params.zip cargs).foldl (fun tmps (x : Nat × Value) => tmps.setIfInBounds x.1 x.2) r.tmps) r.assign r.body .normal) (X.fr :: X.cs) w) _
                rw [hstart]
                exact Steps.trans ((FS.trans l1 hs2).trans hrun) (Steps.one (by rw [hjr]; exact hleave))
              cases ex with
              | norm =>
                simp only [true_and, ne_eq, not_true_eq_false, false_and, or_false] at hst
                obtain ⟨rfl, rfl, rfl⟩ := hst
                exact hfinal none trivial trivial rfl ⟨[], l2, .inl ⟨rfl, rfl⟩⟩
              | exit id =>
                simp only [reduceCtorEq, false_and, ne_eq, not_false_eq_true, true_and, false_or] at hst
                obtain ⟨rfl, rfl, rfl⟩ := hst
                obtain ⟨k2', hx, hrun⟩ := l2
                exact hfinal (some (.exit id)) trivial rfl rfl ⟨_, hrun, .inr (.inr ⟨id, k2', rfl, by rw [hx]; rfl, rfl⟩)⟩
              | ret =>
                simp only [reduceCtorEq, false_and, ne_eq, not_false_eq_true, true_and, false_or] at hst
                obtain ⟨rfl, rfl, rfl⟩ := hst
                obtain ⟨k2', hrun⟩ := l2
                exact hfinal (some .ret) trivial trivial rfl ⟨_, hrun, .inr (.inl ⟨k2', rfl, rfl⟩)⟩
            · cases e
          · cases e
        · cases e
      · cases e
    · cases e
  · cases e

/-! ### functions -/

/-- a frame that returns -/
def Ret (fn : FuncId) (tmps : Array Value) (todo : List Item) (Ds : List Deferred) (kind : CallKind) : Frame :=
  { fn, tmps, todo, defers := Ds, mode := .returning, kind, roundOf := none }

theorem Good.poke {T : Loc → Prop} {M : Mp} {h : Heap} {w : World} {r : Nat} (g : Good P G T M h w) (m : MarkOk M w r) (o : Go.Obj) : Good P G T M h (w.putObj r o) where
  mok := {
    pins := fun b i v hp => by
      have h1 := g.mok.pins b i v hp
      have : b ≠ r := by
        rintro rfl
        simp [World.cell?, m.1] at h1
      rw [cell_of_heap (World.putObj_heap_other this)]; exact h1
    boxlt := fun n b hb => by simpa using g.mok.boxlt n b hb
    boxinj := g.mok.boxinj
    boxpin := g.mok.boxpin
    boxobj := fun n b hb => (g.mok.boxobj n b hb).keep (World.putObj_heap_other (by rintro rfl; exact m.2.1 n hb))
    slotlt := fun s r' hr => by simpa using g.mok.slotlt s r' hr
    slotbox := g.mok.slotbox
    slotinj := g.mok.slotinj
    slotpin := g.mok.slotpin
    sents := g.mok.sents.step rfl (fun i a h => World.putObj_heap_other (by
      rintro e
      obtain ⟨c, t, h'⟩ := g.mok.sents.obj i a h
      rw [e, m.1] at h'; cases h')) (fun _ _ h => .inl h) (fun s r h => .inl ⟨s, r, h, rfl⟩) }
  glob := g.glob
  gle := g.gle
  nbeq := g.nbeq
  nseq := g.nseq
  hok := g.hok
  fbox := g.fbox
  fslot := g.fslot
  boxes := fun n x ht hx => let ⟨b, hb, ho⟩ := g.boxes n x ht hx; ⟨b, hb, ho.keep (.refl M) (World.putObj_heap_other (by rintro rfl; exact m.2.1 n hb))⟩
  slots := fun s x ht hx => (g.slots s x ht hx).keep (.refl M) rfl (fun r' hr => World.putObj_heap_other (m.2.2 s r' hr))

theorem Stp.poke {W : Loc → Prop} {M0 M : Mp} {w0 w : World} (s : Stp W M0 w0 M w) {r : Nat} (hr : w0.heap.size ≤ r) (o : Go.Obj) : Stp W M0 w0 M (w.putObj r o) :=
  ⟨s.le, by simpa using s.size, fun b hb ho => by rw [World.putObj_heap_other (by omega)]; exact s.frame b hb ho, s.extb, s.exts, s.extp, s.news, s.nbl, s.nsl, s.slk, s.io⟩

theorem DRel.poke {D : Nat} {M : Mp} {w : World} {r : Nat} (o : Go.Obj) {ds : List AD} {Ds : List Deferred} (h : DRel P Q D M w ds Ds) (hn : ∀ d ∈ Ds, ∀ r', d.target = .collected r' → r' ≠ r) :
    DRel P Q D M (w.putObj r o) ds Ds := by
  induction h with
  | nil => exact .nil
  | @mark r' ds Ds h hD hn' _ ih =>
    have hne := hn _ (List.mem_cons_self ..) r' rfl
    exact .mark ⟨by rw [World.putObj_heap_other hne]; exact h.1, h.2.1, h.2.2⟩ hD hn' (ih fun d hd => hn d (List.mem_cons_of_mem _ hd))
  | call h hc _ ih => exact .call h hc (ih fun d hd => hn d (List.mem_cons_of_mem _ hd))

theorem defers_ok (hK : KB P Q K) (hKF : KFr K) (fn : FuncId) (tmps : Array Value) (todo : List Item) (kind : CallKind) (cs : List Frame) {T W : Loc → Prop} {M0 : Mp} {w0 : World} : ∀ {ds : List AD} {Ds : List Deferred} {h h' : Heap} {M : Mp} {w : World}, DRel P Q w0.heap.size M w ds Ds → runDefers K ds h = some h' →
    Good P Q.G T M h w → Cov T W h' → Stp W M0 w0 M w →
    ∃ M' w', Good P Q.G T M' h' w' ∧ Stp W M0 w0 M' w' ∧ M.Le M' ∧ Steps P (lone (Ret fn tmps todo Ds kind) cs w) (lone (Ret fn tmps todo [] kind) cs w')
  | [], _, h, h', M, w, hd, e, g, cv, st => by
    cases hd
    cases e
    exact ⟨M, w, g, st, .refl M, .refl P _⟩
  | .mark :: ds, _, h, h', M, w, hd, e, g, cv, st => by
    cases hd with
    | @mark r _ Ds hm hD hn hd' =>
      simp only [runDefers] at e
      obtain ⟨M', w', g', st', hle, run⟩ := defers_ok hK hKF fn tmps todo kind cs (hd'.poke (.deferred none) hn) e (g.poke hm _) cv (st.poke hD _)
      refine ⟨M', w', g', st', hle, Steps.head (step_lone_go (fr' := Ret fn tmps todo Ds kind) (cs' := cs) ?_) run⟩
      simp [stepG, unwind, Ret, Sem.runT_eq, run_takeDeferred hm.1, GStep.bare_after]
  | .call f as :: ds, _, h, h', M, w, hd, e, g, cv, st => by
    cases hd with
    | @call _ _ cap args _ Ds hL hcode hd' =>
      simp only [runDefers] at e
      split at e
      · rename_i v h1 hcall
        have f2 := runDefers_fr hKF e
        obtain ⟨c, w1, M1, hrun0, hs0, g1, st1, _⟩ := hK f _ _ _ _ hcode hcall (Ret fn tmps todo Ds kind) cs rfl T W M w _ hL g (cv.of_grow f2.toGrow)
        obtain ⟨M', w', g', st', hle, run⟩ := defers_ok hK hKF fn tmps todo kind cs (hd'.stp st1) e g1 cv (st.trans st1)
        refine ⟨M', w', g', st', st1.le.trans hle, Steps.trans ?_ run⟩
        refine Steps.head (m₁ := lone (Frame.enter P f (args ++ cap) .deferred) (Ret fn tmps todo Ds kind :: cs) w) (step_lone_go (by simp [stepG, unwind, callDeferred, Ret, Sem.runT_eq, invoke, hrun0, GStep.bare_after])) ?_
        exact hs0
      · cases e

theorem readRes_ok {T W : Loc → Prop} {M : Mp} {w : World} {env : Env} {tmps : Array Value} (he : ERel P G M env tmps) : ∀ {rs : List ResultVar} {ars : List ARes} {h h' : Heap} {vs : List AV}, F2 (fun r a => trRes P r = some a) rs ars →
    readRes env h ars = some (vs, h') → Good P G T M h w → Cov T W h' → Good P G T M h' w ∧ ∃ cs : List Value,
    (rs.mapM fun r => (match r with
      | .tmp t => Pure.pure (tmps.getD t undef)
      | .cell a t => do loadVar t (← asAddr (tmps.getD a undef)) : Sem Value)).run P w = .ok cs w ∧ F2 (VRel P G M) vs cs
  | [], _, h, h', vs, hf, e, g, cv => by
    cases hf
    cases e
    exact ⟨g, [], by simp only [List.mapM_nil, Sem.run_pure], .nil⟩
  | r :: rs, _, h, h', vs, hf, e, g, cv => by
    cases hf with
    | @cons _ a _ ars h1 h2 =>
      cases r with
      | tmp t =>
        simp only [trRes, Option.some.injEq] at h1
        subst h1
        simp only [readRes] at e
        split at e
        · rename_i vs' h1' hr
          cases e
          obtain ⟨g', cs, hrun, hrel⟩ := readRes_ok he h2 hr g cv
          exact ⟨g', tmps.getD t undef :: cs, by simp only [List.mapM_cons, Sem.run_bind, Sem.run_pure, Result.andThen_ok, hrun], .cons (he t) hrel⟩
        · cases e
      | cell a t =>
        simp only [trRes, Option.map_eq_some_iff] at h1
        obtain ⟨sz, hsz, rfl⟩ := h1
        simp only [readRes] at e
        split at e
        · rename_i n off hev
          split at e
          · rename_i cs0 hg
            split at e
            · rename_i v hv
              split at e
              · rename_i vs' h1' hr
                cases e
                have f := readRes_fr hr
                have cvr := cv.of_grow f.toGrow
                obtain ⟨g', cs, hrun, hrel⟩ := readRes_ok he h2 hr (g.rd n) cv
                have hx := he a
                rw [hev] at hx
                obtain ⟨b, hb, arr, el, fz, k1, _, k3, k4⟩ := g.boxes n _ cvr.of_rd hg
                generalize hcv : tmps.getD a undef = cx at hx
                cases hx with
                | ptr hb' =>
                  rw [hb] at hb'; cases hb'
                  obtain ⟨c, hc, hv'⟩ := loadVar_ok (P := P) (w := w) (M := M) (G := G) (b := b) (o := 0) (f := fun i => arr.getD i undef) hsz
                    (fun i hi => by rw [Nat.zero_add]; exact cells_get k1 (by omega)) k4 hv
                  rw [Nat.zero_add] at hc
                  exact ⟨g', c :: cs, by
                    have ha : (asAddr (.pointer (some ⟨b, off, none⟩))).run P w = .ok ⟨b, off, none⟩ w := rfl
                    simp only [List.mapM_cons, Sem.run_bind, Sem.run_pure, Result.andThen_ok, hcv, ha, hc, hrun], .cons hv' hrel⟩
              · cases e
            · cases e
          · cases e
        · cases e

theorem tupOf_rel {M : Mp} {vs : List AV} {cs : List Value} (h : F2 (VRel P G M) vs cs) : VRel P G M (tupOf vs) (if h : cs.toArray.size = 1 then cs.toArray[0] else .tuple cs.toArray) := by
  cases h with
  | nil => exact LRel.nil.tup
  | @cons x c xs cs' h1 h2 =>
    cases h2 with
    | nil => simpa [tupOf] using h1
    | @cons y d ys ds h3 h4 =>
      have : tupOf (x :: y :: ys) = .tup (x :: y :: ys) := rfl
      rw [this]
      simp only [List.size_toArray, List.length_cons]
      rw [dif_neg (by omega)]
      exact (LRel.of_forall2 (.cons h1 (.cons h3 h4))).tup

/-- the last step of a call -/
theorem ret_leave {fn : FuncId} {fd : Func} {tmps : Array Value} {todo : List Item} {w : World} {c : Value} (hf : P.funcs[fn]? = some fd) (hr : (results fd tmps).run P w = .ok c w) {kind : CallKind} {fr : Frame} {cs : List Frame}
    (hm : (kind = .normal ∧ fr.mode = .run) ∨ (kind = .deferred ∧ fr.mode = .returning)) :
    step P (lone (Ret fn tmps todo [] kind) (fr :: cs) w) = .next (lone (match (generalizing := false) kind with | .normal => fr.finish c | _ => fr) cs w) := by
  rcases hm with ⟨rfl, hm⟩ | ⟨rfl, hm⟩ <;> refine step_lone_go ?_ <;> simp [stepG, unwind, Ret, Sem.runT_eq, hf, hr, GStep.bare_after, doReturn, hm]

theorem fn_coreB {cfg : TrCfg} (A : AOk P cfg Q) (hK : KOk P Q.G K) (hKB : KB P Q K) (hKF : KFr K) (n : Nat) {f : Nat} {args : List AV} {h h' : Heap} {v : AV} (hcode : Q.isCode f = true) (e : bodyB Q K (iterN n) (.fn f) args h = some (v, h'))
    (kind : CallKind) (cs : List Frame) {T W : Loc → Prop} {M : Mp} {w : World} {cargs : Array Value} (hL : LRel P Q.G M args cargs) (g : Good P Q.G T M h w) (cv : Cov T W h') :
    ∃ c w' M' fd tmps todo, (callFunc f cargs).run P w = .ok (.enter f cargs) w ∧ P.funcs[f]? = some fd ∧ (results fd tmps).run P w' = .ok c w' ∧ Steps P (lone (Frame.enter P f cargs kind) cs w) (lone (Ret f tmps todo [] kind) cs w') ∧
      Good P Q.G T M' h' w' ∧ Stp W M w M' w' ∧ VRel P Q.G M' v c := by
  simp only [bodyB] at e
  split at e
  · rename_i p hc
    simp [AProg.isCode, hc] at hcode
  · rename_i nt res body hc
    split at e
    · rename_i hlen
      split at e
      · rename_i ex s hev
        have hne : ∀ id, ex ≠ .exit id := by
          rintro id rfl
          simp at e
        have e2 : (match runDefers K s.ds s.h with
            | some h1 => match readRes s.env h1 res with
              | some (vs, h2) => if Q.keep f then some (keepH h h2 (tupOf vs)) else popH h h2 (tupOf vs)
              | none => none
            | none => none) = some (v, h') := by
          cases ex with
          | exit id => exact absurd rfl (hne id)
          | norm => exact e
          | ret => exact e
        clear e
        split at e2
        · rename_i h1 hdef
          split at e2
          · rename_i vs h2 hres
            -- what the translator took
            have htr := A.codes f _ hc
            unfold trF at htr
            split at htr
            · cases htr
            · split at htr
              · rename_i fd hfd
                split at htr
                · rename_i c hbody
                  split at htr
                  · cases htr
                  · rename_i hname
                    split at htr
                    · rename_i rs hrs
                      split at htr
                      · rename_i hdst
                        simp only [Option.some.injEq, AFun.code.injEq] at htr
                        obtain ⟨rfl, rfl, rfl⟩ := htr
                        -- the logs
                        have fE : Fr (enterH h) s.h := evalC_fr hKF (iterN_fr n) _ _ _ _ hev
                        have fD := runDefers_fr hKF hdef
                        have fR := readRes_fr hres
                        have f2 : Fr (enterH h) h2 := (fE.trans fD).trans fR
                        have hlog : h'.t = filt h.base h.sbase h2.t ++ h.t ∧ h'.base = h.base ∧ h'.sbase = h.sbase ∧ ∀ l, l ∈ h2.w → (match l with | .b n => n < h.base | .s n => n < h.sbase) → l ∈ h'.w := by
                          split at e2
                          · cases e2; exact ⟨rfl, rfl, rfl, fun l hl hlow => List.mem_append_left _ (mem_filt.2 ⟨hl, hlow⟩)⟩
                          · exact popH_log e2
                        obtain ⟨ht, hb, hs, hw⟩ := hlog
                        have cv2 : Cov T (LogW h h2) h2 := cov_callee g.hok ht hb hs f2.base f2.sbase cv
                        have hWW : ∀ l, LogW h h2 l → W l := logW_W g.hok hw hb hs cv
                        have cv1 := cv2.of_grow fR.toGrow
                        have cv0 := cv1.of_grow fD.toGrow
                        -- the frame
                        have hbd : ((P.funcs[f]?).bind (·.body)).getD (.refuse "unsupported: a function without a Go body is entered") = c := by simp [hfd, hbody]
                        have hnt : ((P.funcs[f]?).map (·.ntmps)).getD 0 = fd.ntmps := by simp [hfd]
                        obtain ⟨A0, hA0⟩ : ∃ A0 : Act, A0 = ⟨cargs ++ Array.replicate (fd.ntmps - cargs.size) undef, []⟩ := ⟨_, rfl⟩
                        have hstart : Frame.enter P f cargs kind = fat (Frame.enter P f cargs kind) A0 [.code c] := by
                          simp only [Frame.enter, hbd, hnt, fat, hA0]
                        have sr0 : SRelS P Q T w.heap.size M w fd.ntmps ⟨args, [], enterH h⟩ A0 := by
                          have hcs := hL.1
                          refine ⟨g.enter, ?_, ?_, ?_, Nat.le_refl _⟩
                          · intro i
                            rw [hA0]
                            by_cases hi : i < args.length
                            · have := hL.2 i hi
                              have h1 : (cargs ++ Array.replicate (fd.ntmps - cargs.size) undef).getD i undef = cargs.getD i undef := by
                                simp only [Array.getD_eq_getD_getElem?]
                                rw [Array.getElem?_append_left (by omega)]
                              simp only [h1]; exact this
                            · have : Env.get args i = .junk := by simp [Env.get, List.getD_eq_getElem?_getD, List.getElem?_eq_none (Nat.le_of_not_lt hi)]
                              simp only [this]; exact .junk
                          · rw [hA0]; simp; omega
                          · rw [hA0]; exact .nil
                        have hro : (Frame.enter P f cargs kind).roundOf = none := rfl
                        obtain ⟨M1, w1, A1, sr1, st1, l1⟩ := evalC_ok A.mixed hK hKF n (cfg.own f) fd.ntmps none c hdst T (LogW h h2) w.heap.size (Frame.enter P f cargs kind) [] cs M w _ s A0 ex hro sr0 hev cv0
                        have hgo : ∃ todo, Steps P (lone (fat (Frame.enter P f cargs kind) A0 [.code c]) cs w) (lone (Ret f A1.tmps todo A1.defers kind) cs w1) := by
                          cases ex with
                          | norm => exact ⟨[], Steps.trans l1 (.one (step_lone_go (by simp [stepG, stepG.exec, fat, Ret, Frame.enter])))⟩
                          | exit id => exact absurd rfl (hne id)
                          | ret =>
                            obtain ⟨k2, l2⟩ := l1
                            exact ⟨_, Steps.trans l2 (.one (step_lone_go (by simp [stepG, stepG.exec, fat, Ret, Frame.enter]; rfl)))⟩
                        obtain ⟨todo, hgo⟩ := hgo
                        obtain ⟨M2, w2, g2, st2, hle2, run2⟩ := defers_ok hKB hKF f A1.tmps todo kind cs sr1.ds hdef sr1.good cv1 st1
                        have hrs' := mapM_f2 hrs
                        obtain ⟨g3, cs3, hrun3, hrel3⟩ := readRes_ok (W := LogW h h2) (ERel.mono hle2 sr1.env) hrs' hres g2 cv2
                        have hresults : (results fd A1.tmps).run P w2 = .ok (if hh : cs3.toArray.size = 1 then cs3.toArray[0] else .tuple cs3.toArray) w2 := by
                          unfold results
                          rw [Array.mapM_eq_mapM_toList]
                          simp only [map_eq_pure_bind, Sem.run_bind]
                          refine (congrArg (fun r : Result (List Value) => (r.andThen fun a w' => Sem.run P (Pure.pure a.toArray) w').andThen fun a w' => Sem.run P (Pure.pure (if hh : a.size = 1 then a[0] else .tuple a)) w') hrun3).trans ?_
                          simp only [Result.andThen_ok, Sem.run_pure]
                        have hval := tupOf_rel hrel3
                        have hfin : ∃ M', Good P Q.G T M' h' w2 ∧ Stp (LogW h h2) M w M' w2 ∧ VRel P Q.G M' v (if hh : cs3.toArray.size = 1 then cs3.toArray[0] else .tuple cs3.toArray) := by
                          split at e2
                          · simp only [Option.some.injEq] at e2
                            have hk := keepH_ok (r := tupOf vs) g3 g f2
                            rw [e2] at hk
                            have hv : v = tupOf vs := by rw [show v = (keepH h h2 (tupOf vs)).1 by rw [e2]]; rfl
                            exact ⟨M2, hk, st2, by rw [hv]; exact hval⟩
                          · exact popH_ok g f2 g3 st2 hval e2
                        obtain ⟨M', g', st', hv'⟩ := hfin
                        have hcf : (callFunc f cargs).run P w = .ok (.enter f cargs) w := by
                          simp only [callFunc, Sem.run_bind, run_program, Result.andThen_ok, hfd]
                          simp [hname, hbody, Sem.run_pure]
                        refine ⟨_, w2, M', fd, A1.tmps, todo, hcf, hfd, hresults, ?_, g', st'.mono hWW, hv'⟩
                        have hs := hgo.trans run2
                        rw [← hstart] at hs
                        exact hs
                      · cases htr
                    · cases htr
                · cases htr
              · cases htr
          · cases e2
        · cases e2
      · cases e
    · cases e
  · cases e

theorem fn_core {cfg : TrCfg} (A : AOk P cfg Q) (hK : KOk P Q.G K) (hKB : KB P Q K) (hKF : KFr K) (n : Nat) {f : Nat} {args : List AV} {h h' : Heap} {v : AV} (hcode : Q.isCode f = true) (e : bodyA Q K (iterN n) (.fn f) args h = some (v, h'))
    (kind : CallKind) (cs : List Frame) {T W : Loc → Prop} {M : Mp} {w : World} {cargs : Array Value} (hL : LRel P Q.G M args cargs) (g : Good P Q.G T M h w) (cv : Cov T W h') :
    ∃ c w' M' fd tmps todo, (callFunc f cargs).run P w = .ok (.enter f cargs) w ∧ P.funcs[f]? = some fd ∧ (results fd tmps).run P w' = .ok c w' ∧ Steps P (lone (Frame.enter P f cargs kind) cs w) (lone (Ret f tmps todo [] kind) cs w') ∧
      Good P Q.G T M' h' w' ∧ Stp W M w M' w' ∧ VRel P Q.G M' v c := by
  simp only [bodyA] at e
  split at e
  · rename_i hpure
    simp only [Bool.and_eq_true] at hpure
    obtain ⟨_, hnf⟩ := hpure
    split at e
    · rename_i hok
      split at e
      · rename_i v1 h1 hev
        split at e
        · rename_i hw
          split at e
          · rename_i hvn
            simp only [Option.some.injEq, Prod.mk.injEq] at e
            obtain ⟨rfl, rfl⟩ := e
            have hT : ∀ k, k < Q.G → T (.b k) := fun k hk => cv.t _ (List.mem_append_left _ (List.mem_map.2 ⟨k, List.mem_range.2 hk, rfl⟩))
            have gG := ground_good g hok hT A.gl
            have fr := bodyB_fr A.pfr hKF (iterN_fr n) _ _ _ _ _ hev
            have cvG : Cov TrueG (OwnG Q.G) h1 := {
              t := fun _ _ => trivial
              w := fun l hl => by rw [hw] at hl; cases hl
              ownb := fun k hk => ⟨trivial, by rw [fr.base] at hk; exact hk⟩
              owns := fun _ _ => ⟨trivial, trivial⟩ }
            have hLG : LRel P Q.G (M.cut Q.G 0) args cargs := ⟨hL.1, fun i hi => (hL.2 i hi).cut (Nat.le_refl _) (nfL_get hnf hi)⟩
            obtain ⟨c, w', M', fd, tmps, todo, k1, k2, k3, k4, k5, k6, k7⟩ := fn_coreB A hK hKB hKF n hcode hev kind cs hLG gG cvG
            obtain ⟨Mf, m1, m2, m3⟩ := ground_back (W := W) g k5.mok k6 k7 hvn
            exact ⟨c, w', Mf, fd, tmps, todo, k1, k2, k3, k4, m1, m2, m3⟩
          · cases e
        · cases e
      · cases e
    · cases e
  · exact fn_coreB A hK hKB hKF n hcode e kind cs hL g cv

theorem fn_code {cfg : TrCfg} (A : AOk P cfg Q) (hK : KOk P Q.G K) (hKB : KB P Q K) (hKF : KFr K) (n : Nat) {f : Nat} {args : List AV} {h h' : Heap} {v : AV} (hcode : Q.isCode f = true) (e : bodyA Q K (iterN n) (.fn f) args h = some (v, h'))
    (kind : CallKind) (fr : Frame) (cs : List Frame) (hm : (kind = .normal ∧ fr.mode = .run) ∨ (kind = .deferred ∧ fr.mode = .returning)) {T W : Loc → Prop} {M : Mp} {w : World} {cargs : Array Value} (hL : LRel P Q.G M args cargs) (g : Good P Q.G T M h w) (cv : Cov T W h') :
    ∃ c w' M', (callFunc f cargs).run P w = .ok (.enter f cargs) w ∧ Steps P (lone (Frame.enter P f cargs kind) (fr :: cs) w) (lone (match (generalizing := false) kind with | .normal => fr.finish c | _ => fr) cs w') ∧
      Good P Q.G T M' h' w' ∧ Stp W M w M' w' ∧ VRel P Q.G M' v c := by
  obtain ⟨c, w', M', fd, tmps, todo, h1, h2, h3, h4, h5⟩ := fn_core A hK hKB hKF n hcode e kind (fr :: cs) hL g cv
  exact ⟨c, w', M', h1, h4.trans (.one (ret_leave h2 h3 hm)), h5⟩

theorem callN_both {cfg : TrCfg} (A : AOk P cfg Q) : ∀ n, KOk P Q.G (callN Q n) ∧ KB P Q (callN Q n)
  | 0 => ⟨fun X tgt args h v h' e => by simp [callN] at e, fun f args h v h' _ e => by simp [callN] at e⟩
  | n + 1 => by
    obtain ⟨h1, h2⟩ := callN_both A n
    refine ⟨fun X tgt args h v h' e T W M w cargs hL g cv => ?_, fun f args h v h' hq e fr cs hm T W M w cargs hL g cv => ?_⟩
    · simp only [callN] at e
      cases tgt with
      | fn f =>
        cases hq : Q.isCode f with
        | true =>
          obtain ⟨c, w', M', k1, k5, k2, k3, k4⟩ := fn_code A h1 h2 (callN_fr A.pfr n) n hq e .normal X.fr X.cs (.inl ⟨rfl, X.run⟩) hL g cv
          exact ⟨c, w', M', .enter k1 k5, k2, k3, k4⟩
        | false =>
          simp only [bodyA, hq, Bool.false_and, Bool.false_eq_true, if_false, bodyB] at e
          split at e
          · rename_i p hc
            exact A.prims f p hc args h v h' e T W M w cargs hL g cv X
          · rename_i hc
            simp [AProg.isCode, hc] at hq
          · cases e
      | yield l => exact fun b hb => yield_ok A.mixed h1 (callN_fr A.pfr n) n e hL g cv hb X
    · simp only [callN] at e
      exact fn_code A h1 h2 (callN_fr A.pfr n) n hq e .deferred fr cs (.inr ⟨rfl, hm⟩) hL g cv

/-- what the machine computes of a function, the program's function returns, from whatever call -/
theorem callN_calls {cfg : TrCfg} (A : AOk P cfg Q) {n f : Nat} {args : List AV} {h h' : Heap} {v : AV} (hcode : Q.isCode f = true) (e : callN Q (n + 1) (.fn f) args h = some (v, h'))
    {T W : Loc → Prop} {M : Mp} {w : World} {cargs : Array Value} (hL : LRel P Q.G M args cargs) (g : Good P Q.G T M h w) (cv : Cov T W h') :
    Calls P f cargs w fun e w' => ∃ c M', e = .returned c ∧ Good P Q.G T M' h' w' ∧ Stp W M w M' w' ∧ VRel P Q.G M' v c := by
  intro cs
  obtain ⟨k1, k2⟩ := callN_both A n
  obtain ⟨c, w', M', fd, tmps, todo, h1, h2, h3, h4, h5⟩ := fn_core A k1 k2 (callN_fr A.pfr n) n hcode e .normal cs hL g cv
  exact ⟨.returned c, w', Ret f tmps todo [] .normal, ⟨c, M', rfl, h5⟩, h4, rfl, rfl, rfl, rfl, fd, h2, h3⟩

theorem callN_ok {cfg : TrCfg} (A : AOk P cfg Q) (n : Nat) : KOk P Q.G (callN Q n) := (callN_both A n).1
end
end Am
end
