/- The start: a world in which package variables hold what a row lays, and the abstract machine's first heap. Nothing is claimed of a program here. -/
import Derived.Test.YtgklpnendmhbjaaGreatDoorA5
import Derived.LaidLaws
import Derived.Stop.LaidErr
import Derived.Lib.LaidTab
import Derived.Shelf.Vars
import Derived.ChangeSame
import Derived.RowKit
set_option linter.unusedSimpArgs false
set_option linter.unusedVariables false
set_option linter.unusedSectionVars false
set_option linter.unnecessarySimpa false
section
namespace Am
open Go

/-- where a package variable of kind error points to -/
def sentW (W : World) (S : List Nat) (g : Nat) : Option Addr :=
  if S.contains g then (match W.cell? ⟨g, 0, none⟩ with | some (.iface _ (.pointer (some a))) => some a | _ => none) else none

def M0 (ng : Nat) (S : List Nat) (W : World) : Mp :=
  { nb := ng, ns := 0, box := fun n => if n < ng then some n else none, slot := fun _ => .unborn, pin := fun b o => W.cell? ⟨b, o, none⟩, sent := sentW W S }

def H0 (objs : List Obj) : Heap :=
  { boxes := objs.reverse, nb := objs.length, ns := 0, live := [], base := objs.length, sbase := 0, t := [], w := [] }

def W0 (ng : Nat) : Loc → Prop
  | .b n => ng ≤ n
  | .s _ => True

/-- what must be known of the world -/
structure Start (P : Program) (objs : List Obj) (S : List Nat) (W : World) : Prop where
  len : objs.length = P.globals.size
  glob : ∀ g, g < P.globals.size → ∃ cs t, W.heap[g]? = some (.cells cs t (0, 0))
  inj : ∀ i j a, sentW W S i = some a → sentW W S j = some a → i = j
  high : ∀ i a, sentW W S i = some a → P.globals.size ≤ a.block ∧ ∃ c t, W.heap[a.block]? = some (.cells c t (0, 0))
  obj : ∀ g o, objs[g]? = some o → ORel P objs.length (M0 objs.length S W) W g o

theorem H0_get {objs : List Obj} {n : Nat} {o : Obj} (h : (H0 objs).get n = some o) : objs[n]? = some o := by
  unfold Heap.get H0 at h
  simp only at h
  split at h
  · rename_i hn
    rw [List.getElem?_reverse (by omega)] at h
    rw [← h]; congr 1; omega
  · cases h

theorem frozen_none {W : World} {b : Nat} {cs : Array Value} {t : TypeId} (h : W.heap[b]? = some (.cells cs t (0, 0))) (o : Nat) : W.frozen? ⟨b, o, none⟩ = false := by
  simp [World.frozen?, h]

theorem start_good {P : Program} {objs : List Obj} {S : List Nat} {W : World} (s : Start P objs S W) : Good P objs.length (fun _ => True) (M0 objs.length S W) (H0 objs) W where
  mok := {
    pins := fun b o v h => h
    boxlt := fun n b h => by
      simp only [M0] at h
      split at h
      · rename_i hn
        cases h
        obtain ⟨cs, t, e⟩ := s.glob n (by rw [← s.len]; exact hn)
        rcases Nat.lt_or_ge n W.heap.size with h' | h'
        · exact h'
        · rw [Array.getElem?_eq_none h'] at e; cases e
      · cases h
    boxinj := fun n n' b h h' => by
      simp only [M0] at h h'
      split at h <;> split at h' <;> simp_all
    boxpin := fun n b o hG h => by
      simp only [M0] at h
      split at h
      · omega
      · cases h
    boxobj := fun n b h => by
      simp only [M0] at h
      split at h
      · rename_i hn
        cases h
        obtain ⟨cs, t, e⟩ := s.glob n (by rw [← s.len]; exact hn)
        exact ⟨frozen_none e, _, e, trivial⟩
      · cases h
    slotlt := fun _ _ h => by cases h
    slotbox := fun _ _ _ h => by cases h
    slotinj := fun _ _ _ _ h => by cases h
    slotpin := fun _ _ _ h => by cases h
    sents := {
      inj := s.inj
      obj := fun i a h => (s.high i a h).2
      box := fun i a n h e => by
        have := (s.high i a h).1
        simp only [M0] at e
        split at e
        · rename_i hn
          rw [s.len] at hn
          simp only [Option.some.injEq] at e; omega
        · cases e
      slot := fun _ _ _ _ _ h => by cases h } }
  glob := fun g hg => by simp only [M0]; rw [if_pos (by rw [s.len]; exact hg)]
  gle := Nat.le_refl _
  nbeq := rfl
  nseq := rfl
  hok := ⟨by simp [H0], fun p hp => by simp [H0] at hp, by simp [H0], by simp [H0]⟩
  fbox := fun n hn => by
    simp only [M0]; rw [if_neg (by simp only [H0] at hn; omega)]
  fslot := fun _ _ => rfl
  boxes := fun n o _ hx => by
    have hlt : n < objs.length := (List.getElem?_eq_some_iff.1 (H0_get hx)).1
    exact ⟨n, by simp only [M0]; rw [if_pos hlt], s.obj n o (H0_get hx)⟩
  slots := fun s x _ hx => by simp [Heap.slot, H0] at hx

/-- what the machine computes at the start, the program returns, and memory below stays -/
theorem start_calls {P : Program} {cfg : TrCfg} {Q : AProg} (A : AOk P cfg Q) {objs : List Obj} {S : List Nat} {W : World} (s : Start P objs S W) (hG : Q.G = objs.length) {n f : Nat} {args : List AV} {h' : Heap} {v : AV} {cargs : Array Value}
    (hcode : Q.isCode f = true) (e : callN Q (n + 1) (.fn f) args (H0 objs) = some (v, h')) (hw : h'.w = []) (hL : LRel P Q.G (M0 objs.length S W) args cargs) :
    Calls P f cargs W fun e W' => ∃ c M', e = .returned c ∧ VRel P Q.G M' v c ∧ (M0 objs.length S W).Le M' ∧ W.heap.size ≤ W'.heap.size ∧ (∀ b, b < W.heap.size → W'.heap[b]? = W.heap[b]?) ∧ SameIO W W' := by
  have g : Good P Q.G (fun _ => True) (M0 objs.length S W) (H0 objs) W := by rw [hG]; exact start_good s
  have fr := callN_fr A.pfr (n + 1) _ _ _ _ _ e
  have cv : Cov (fun _ => True) (W0 objs.length) h' := {
    t := fun _ _ => trivial
    w := fun l hl => by rw [hw] at hl; cases hl
    ownb := fun k hk => ⟨trivial, by rw [fr.base] at hk; exact hk⟩
    owns := fun _ _ => ⟨trivial, trivial⟩ }
  have hc := callN_calls A hcode e hL g cv
  refine hc.mono fun e W' ⟨c, M', he, g', st, hv⟩ => ⟨c, M', he, hv, st.le, st.size, fun b hb => st.frame b hb ?_, st.io⟩
  rintro (⟨k, hk, h1⟩ | ⟨s, r, _, h1, _⟩)
  · simp only [M0] at h1
    split at h1
    · have : objs.length ≤ k := hk
      omega
    · cases h1
  · cases h1
end Am
end
section
namespace Am
open Go

def errT? : DataW Unit → Option (List UInt8)
  | .iface nm (.ptr (.agg [.lit (.string text)])) => if nm == "*errors.errorString" then some text else none
  | _ => none
theorem errT_eq {d : DataW Unit} {text : List UInt8} (h : errT? d = some text) : d = .iface "*errors.errorString" (.ptr (.agg [.lit (.string text)])) := by
  unfold errT? at h
  split at h
  · rename_i nm t
    split at h
    · rename_i hn
      simp only [Option.some.injEq] at h
      subst h
      rw [beq_iff_eq.1 hn]
    · cases h
  · cases h

/-- the types of errors that are texts -/
structure ErrEnv (P : Program) (ti tp te : TypeId) : Prop where
  hi : ∃ ms, P.underlying ti = some (.interface ms)
  hrow : ∀ u, P.typeName? 3 u = some "*errors.errorString" → u = tp
  hp : P.underlying tp = some (.pointer te)
  he : ∃ f ts, P.underlying te = some (.struct #[f]) ∧ f.type = ts ∧ f.offset = 0 ∧ P.underlying ts = some .string ∧ P.cellsOf ts = 1
  hc : P.cellsOf te = 1

section
variable {P : Program} {W : World} {ti tp te : TypeId}

def RowsOk (P : Program) (W : World) (ps : List MemPlace) : Prop :=
  ∀ b off, MemPlace.cell b off ∈ ps → (∃ c t, W.heap[b]? = some (.cells c t (0, 0))) ∧ ∀ u v, W.cell? ⟨b, off, none⟩ = some (.iface u v) → Value.okWide P W .any 0 u v

theorem err_head (E : ErrEnv P ti tp te) {n : String} {text : List UInt8} {g : Nat} {t : TypeId} {cs : Array Value} {fuel : Nat} {p : List MemPlace} {ps : List MemPlace}
    (hg : P.globalNamed n = some g) (ht : (P.globals[g]?).map (·.type) = some t) (hti : (P.globals[g]?).map (·.type) = some ti) (hv : W.var? P n = some cs)
    (hd : DataW.trod (fun _ => ()) P W 0 (fun _ => true) false fuel t cs.toList = some (.iface "*errors.errorString" (.ptr (.agg [.lit (.string text)])), p))
    (hps : ∀ x ∈ MemPlace.row ⟨g, 0, none⟩ cs.size, x ∈ ps) (rows : RowsOk P W ps) :
    ∃ a s, W.var? P n = some #[.iface tp (.pointer (some a))] ∧ W.cell? a = some (.string s) ∧ .cell a.block a.off ∈ p ∧ Value.okWide P W .any 0 tp (.pointer (some a)) := by
  obtain rfl := Option.some.inj (hti.symm.trans ht)
  obtain ⟨ms, hi⟩ := E.hi
  obtain ⟨f, ts, h1, h2, h3, h4, h5⟩ := E.he
  obtain ⟨l0⟩ := cs
  have ok0 : ∀ u v, l0 = [.iface u v] → Value.okWide P W .any 0 u v := fun u v e => by
    subst e
    exact (rows g 0 (hps _ (by simp [MemPlace.row]))).2 u v (by simpa using World.var?_cell hg hv 0)
  obtain ⟨a0, s0, rfl, hc0, _, _, rfl⟩ := errorString_of_trod hi E.hrow E.hp h1 h2 h3 h4 E.hc h5 hd ok0
  exact ⟨a0, s0, hv, hc0, by simp [MemPlace.row], ok0 _ _ rfl⟩

theorem errs_of (E : ErrEnv P ti tp te) : ∀ {l : List (String × DataW Unit)} {ps : List MemPlace}, DataW.LaidVars P W l ps → RowsOk P W ps →
    (∀ n d g, (n, d) ∈ l → (errT? d).isSome → P.globalNamed n = some g → (P.globals[g]?).map (·.type) = some ti) →
    ∀ n d, (n, d) ∈ l → (errT? d).isSome → ∃ g a s, P.globalNamed n = some g ∧ W.var? P n = some #[.iface tp (.pointer (some a))] ∧ W.cell? a = some (.string s) ∧ .cell a.block a.off ∈ ps ∧ Value.okWide P W .any 0 tp (.pointer (some a))
  | [], _, _, _, _, _, _, h, _ => by cases h
  | (n0, d0) :: r, ps, hl, rows, hty, n, d, hm, he => by
    obtain ⟨g, t, cs, fuel, p, q, hg, ht, hv, hd, hr, rfl⟩ := hl
    rcases List.mem_cons.1 hm with e | hm
    · cases e
      obtain ⟨text, htx⟩ := Option.isSome_iff_exists.1 he
      rw [errT_eq htx] at hd
      obtain ⟨a, s, h1, h2, h3, h4⟩ := err_head E hg ht (hty _ _ g (List.mem_cons_self ..) he hg) hv hd (fun x hx => List.mem_append_left _ (List.mem_append_left _ hx)) rows
      exact ⟨g, a, s, hg, h1, h2, List.mem_append_left _ (List.mem_append_right _ h3), h4⟩
    · obtain ⟨g', a, s, h1, h2, h3, h4, h5⟩ := errs_of E hr (fun b off hx => rows b off (List.mem_append_right _ hx)) (fun n d g hx => hty n d g (List.mem_cons_of_mem _ hx)) n d hm he
      exact ⟨g', a, s, h1, h2, h3, List.mem_append_right _ h4, h5⟩

theorem errs_apart (E : ErrEnv P ti tp te) : ∀ {l : List (String × DataW Unit)} {ps : List MemPlace}, DataW.LaidVars P W l ps → RowsOk P W ps → ps.Nodup →
    (∀ n d g, (n, d) ∈ l → (errT? d).isSome → P.globalNamed n = some g → (P.globals[g]?).map (·.type) = some ti) →
    ∀ n d n' d' a, (n, d) ∈ l → (errT? d).isSome → (n', d') ∈ l → (errT? d').isSome → W.var? P n = some #[.iface tp (.pointer (some a))] → W.var? P n' = some #[.iface tp (.pointer (some a))] → n = n'
  | [], _, _, _, _, _, _, _, _, _, _, h, _, _, _, _, _ => by cases h
  | (n0, d0) :: r, ps, hl, rows, hnd, hty, n, d, n', d', a, hm, he, hm', he', hv, hv' => by
    obtain ⟨g, t, cs, fuel, p, q, hg, ht, hv0, hd, hr, rfl⟩ := hl
    have rowsq : RowsOk P W q := fun b off hx => rows b off (List.mem_append_right _ hx)
    have htyr : ∀ n d g, (n, d) ∈ r → (errT? d).isSome → P.globalNamed n = some g → (P.globals[g]?).map (·.type) = some ti := fun n d g hx => hty n d g (List.mem_cons_of_mem _ hx)
    have key : ∀ x y dx dy, (x, dx) = (n0, d0) → (errT? dx).isSome → (y, dy) ∈ r → (errT? dy).isSome → W.var? P x = some #[.iface tp (.pointer (some a))] → W.var? P y = some #[.iface tp (.pointer (some a))] → False := by
      intro x y dx dy ex hx hy hye vx vy
      cases ex
      obtain ⟨text, htx⟩ := Option.isSome_iff_exists.1 hx
      rw [errT_eq htx] at hd
      obtain ⟨a1, s1, k1, k2, k3, k4⟩ := err_head E hg ht (hty _ _ g (List.mem_cons_self ..) hx hg) hv0 hd (fun x hx => List.mem_append_left _ (List.mem_append_left _ hx)) rows
      obtain ⟨g2, a2, s2, m1, m2, m3, m4, m5⟩ := errs_of E hr rowsq htyr _ _ hy hye
      rw [k1] at vx; cases vx
      rw [m2] at vy; cases vy
      exact (List.nodup_append.1 hnd).2.2 _ (List.mem_append_right _ k3) _ m4 rfl
    rcases List.mem_cons.1 hm with e | hm <;> rcases List.mem_cons.1 hm' with e' | hm'
    · cases e; cases e'; rfl
    · exact (key n n' d d' e he hm' he' hv hv').elim
    · exact (key n' n d' d e' he' hm he hv' hv).elim
    · exact errs_apart E hr rowsq (List.nodup_append.1 hnd).2.1 htyr n d n' d' a hm he hm' he' hv hv'

/-- no package variable has room for an error's text -/
def globCheck (P : Program) (te : TypeId) : Bool := (List.range P.globals.size).all fun g => match (begin P (fun _ _ => 0) default).world.heap[g]? with
  | some (.cells zero t _) => (List.range zero.size).all fun off => !liesAt P P.depth t (zero.size / P.cellsOf t) off te 1
  | _ => false

theorem globs {te : TypeId} (hc : globCheck P te = true) (hS : W.ShapedOpen P) {g : Nat} (hg : g < P.globals.size) :
    ∃ cs t, W.heap[g]? = some (.cells cs t (0, 0)) ∧ ∀ off, off < cs.size → liesAt P P.depth t (cs.size / P.cellsOf t) off te 1 = false := by
  have h1 := List.all_eq_true.1 hc g (List.mem_range.2 hg)
  split at h1
  · rename_i zero t fz e
    obtain ⟨cs, h2, h3, _⟩ := hS.1 g zero t hg (by rw [e]; rfl)
    refine ⟨cs, t, h2, fun off ho => ?_⟩
    have := List.all_eq_true.1 h1 off (List.mem_range.2 (by omega))
    rw [h3]
    simpa using this
  · cases h1

theorem sent_high {te : TypeId} (hc : globCheck P te = true) (hS : W.ShapedOpen P) (hp : P.underlying tp = some (.pointer te)) {a : Addr} {s : ByteArray} (hcell : W.cell? a = some (.string s)) (ok : Value.okWide P W .any 0 tp (.pointer (some a))) :
    P.globals.size ≤ a.block := by
  rcases Nat.lt_or_ge a.block P.globals.size with hlt | hge
  · exfalso
    obtain ⟨cs, t, h1, h2⟩ := globs hc hS hlt
    have ok' : W.has P .any 0 a te 1 := by
      simpa [Value.okWide, Cell.okWide, Cell.ok, hp] using ok
    obtain ⟨_, hsp, row, cells, hsh, hl⟩ := ok'
    have e : W.shape? a.block = some (t, cs.size) := by simp [World.shape?, h1]
    rw [e] at hsh
    cases hsh
    have ho : a.off < cs.size := by
      rcases Nat.lt_or_ge a.off cs.size with h | h
      · exact h
      · simp [World.cell?, h1, hsp, Array.getElem?_eq_none h] at hcell
    rw [h2 _ ho] at hl
    cases hl
  · exact hge
end
end Am
end
section
namespace Am
open Go

section
variable {P : Program} {W : World} {objs : List Obj} {S : List Nat}

theorem var_heap {n : String} {g : Nat} {cs : Array Value} (hg : P.globalNamed n = some g) (h : W.var? P n = some cs) : ∃ t fz, W.heap[g]? = some (.cells cs t fz) := by
  simp only [World.var?, hg, Option.bind_some] at h
  split at h
  · rename_i c t fz e
    simp only [Option.some.injEq] at h; subst h
    exact ⟨t, fz, e⟩
  · cases h

/-- the type of a package variable's cells, as the program begins -/
def rowType (P : Program) (g : Nat) : Option (Nat × Nat) := match (begin P (fun _ _ => 0) default).world.heap[g]? with
  | some (.cells zero t _) => some (t, zero.size)
  | _ => none

theorem glob_at (hS : W.ShapedOpen P) {g t z : Nat} (hg : g < P.globals.size) (h : rowType P g = some (t, z)) : ∃ cs, W.heap[g]? = some (.cells cs t (0, 0)) ∧ cs.size = z ∧ (P.buildable t = true → Row.ok P W .any 0 t cs) := by
  unfold rowType at h
  split at h
  · rename_i zero t' fz e
    simp only [Option.some.injEq, Prod.mk.injEq] at h
    obtain ⟨rfl, rfl⟩ := h
    exact hS.1 g zero t' hg (by rw [e]; rfl)
  · cases h

/-- a variable of one known cell -/
theorem obj_cell (hS : W.ShapedOpen P) {n : String} {g t z : Nat} {c : Value} {x : AV} (hg : P.globalNamed n = some g) (hlt : g < P.globals.size) (h : rowType P g = some (t, z)) (hv : W.var? P n = some #[c])
    {G : Nat} {M : Mp} (hx : VRel P G M x c) : ORel P G M W g (.cells t [x]) := by
  obtain ⟨cs, h1, h2, _⟩ := glob_at hS hlt h
  obtain ⟨t', fz, h3⟩ := var_heap hg hv
  rw [h1] at h3
  cases h3
  refine ⟨_, ⟨t, rfl⟩, _, h1, frozen_none h1, rfl, fun i hi => ?_⟩
  have : i = 0 := by simp at hi; omega
  subst this
  simpa using hx

theorem obj_laid (hS : W.ShapedOpen P) {n : String} {g t z k : Nat} {cs : Array Value} (hg : P.globalNamed n = some g) (hlt : g < P.globals.size) (h : rowType P g = some (t, z)) (hv : W.var? P n = some cs)
    {G : Nat} {M : Mp} (hk : LaidOk k cs) : ORel P G M W g (.laid k) := by
  obtain ⟨cs', h1, h2, _⟩ := glob_at hS hlt h
  obtain ⟨t', fz, h3⟩ := var_heap hg hv
  rw [h1] at h3
  cases h3
  exact ⟨_, t, _, h1, frozen_none h1, hk⟩

theorem obj_mx (hS : W.ShapedOpen P) {g t z : Nat} (hlt : g < P.globals.size) (h : rowType P g = some (t, z)) (hz : z = 1) (hb : P.buildable t = true) (hc : P.cellTypes P.depth t = some [t]) (hu : P.underlying t = some (.int .i64))
    {G : Nat} {M : Mp} : ORel P G M W g (.laid 0) := by
  obtain ⟨cs, h1, h2, h3⟩ := glob_at hS hlt h
  obtain ⟨ts, hts, _, hall⟩ := h3 hb
  rw [hc] at hts
  cases hts
  have hp : 0 < cs.size := by omega
  obtain ⟨u, hu', hok⟩ := hall 0 cs[0] (by simp [hp])
  have : u = t := by simpa using hu'.symm
  subst this
  refine ⟨_, u, _, h1, frozen_none h1, ?_⟩
  simp only [Cell.ok, hu] at hok
  cases hv : cs[0] <;> rw [hv] at hok <;> simp at hok
  rename_i k m
  obtain ⟨rfl, _⟩ := hok
  exact ⟨m, by rw [Array.getElem?_eq_getElem hp, hv]⟩

/-- the handle of a type -/
theorem var_handle {hs : List (String × DataW Unit)} (h : handlesMet P hs W) {n : String} {d : DataW Unit} (hx : (n, d) ∈ hs) (hf : d.funcsIn? = none) {name : List UInt8} (hn : d.handleName? = some name) {u ty : Nat}
    (hu : (P.cutTypes.find? (·.1 == "internal/reflectlite.rtype")).map (·.2) = some u) (huniq : ∀ t, t < P.types.size → P.rowNamed t name = true → t = ty) :
    W.var? P n = some #[.iface u (.agg #[typeHandle P ty])] := by
  have := h _ hx
  simp only [hf] at this
  obtain ⟨name', u', ty', h1, h2, h3, h4, h5⟩ := this
  rw [hn] at h1; cases h1
  rw [hu] at h2; cases h2
  rw [huniq ty' h3 h4] at h5
  exact h5

/-- laid variables, each alone -/
theorem laid_one : ∀ {l : List (String × DataW Unit)} {ps : List MemPlace}, DataW.LaidVars P W l ps → ∀ {n : String} {d : DataW Unit}, (n, d) ∈ l →
    ∃ g t cs fuel p, P.globalNamed n = some g ∧ (P.globals[g]?).map (·.type) = some t ∧ W.var? P n = some cs ∧ DataW.trod (fun _ => ()) P W 0 (fun _ => true) false fuel t cs.toList = some (d, p)
  | [], _, _, _, _, h => by cases h
  | (n0, d0) :: r, ps, hl, n, d, hm => by
    obtain ⟨g, t, cs, fuel, p, q, hg, ht, hv, hd, hr, rfl⟩ := hl
    rcases List.mem_cons.1 hm with e | hm
    · cases e; exact ⟨g, t, cs, fuel, p, hg, ht, hv, hd⟩
    · exact laid_one hr hm

theorem var_tab {l : List (String × DataW Unit)} (h : laidMet P l W) {n : String} {k : IntKind} {zs : List Int} (hx : (n, Lib.tabData k zs) ∈ l) {g : Nat} {t e : TypeId} {m : Nat}
    (hg : P.globalNamed n = some g) (hty : (P.globals[g]?).map (·.type) = some t) (ht : P.underlying t = some (.array m e)) (he : P.underlying e = some (.int k)) (hce : P.cellsOf e = 1) (hct : P.cellsOf t = m) :
    W.var? P n = some (zs.map fun z => Value.int k z).toArray := by
  obtain ⟨ps, hl, _⟩ := h
  obtain ⟨g', t', cs, fuel, p, hg', ht', hv, hd⟩ := laid_one hl hx
  obtain rfl := Option.some.inj (hg.symm.trans hg')
  obtain rfl := Option.some.inj (hty.symm.trans ht')
  rw [hv, ← Lib.cells_of_tab ht he hce hct hd]

/-- an array of pairs of numbers -/
theorem cells_of_pairs {w : World} {base : Nat} {sp : Nat → Bool} {held : Bool} {fuel : Nat} {t e u : TypeId} {n : Nat} {k : IntKind} {cs : List Value} {zs : List (Int × Int)} {p : List MemPlace} {f0 f1 : Field}
    (ht : P.underlying t = some (.array n e)) (he : P.underlying e = some (.struct #[f0, f1])) (h0 : f0.type = u) (h1 : f1.type = u) (o0 : f0.offset = 0) (o1 : f1.offset = 1) (hu : P.underlying u = some (.int k)) (hcu : P.cellsOf u = 1) (hce : P.cellsOf e = 2) (hct : P.cellsOf t = n * 2)
    (h : DataW.trod (fun _ => ()) P w base sp held fuel t cs = some ((.agg (zs.map fun z => .agg [.lit (.int k z.1), .lit (.int k z.2)]) : DataW Unit), p)) :
    cs.length = n * 2 ∧ ∀ i z, zs[i]? = some z → cs[2 * i]? = some (.int k z.1) ∧ cs[2 * i + 1]? = some (.int k z.2) := by
  cases fuel with
  | zero => simp [DataW.trod] at h
  | succ fuel =>
    simp only [DataW.trod, ht, hce, hct] at h
    split at h
    · rename_i hl
      obtain ⟨xs, hm, hx⟩ := Option.map_eq_some_iff.1 h
      have hxs : xs.map (·.1) = zs.map fun z => (.agg [.lit (.int k z.1), .lit (.int k z.2)] : DataW Unit) := by
        have := congrArg Prod.fst hx
        simpa using this
      refine ⟨hl, fun i z hz => ?_⟩
      have hxl : xs.length = n := by simpa using Lib.mapM_length hm
      have hzl : zs.length = n := by
        have := congrArg List.length hxs
        simp at this
        omega
      have hi : i < n := by rw [← hzl]; exact (List.getElem?_eq_some_iff.1 hz).1
      obtain ⟨b, hb, hf⟩ := Lib.mapM_at hm i i (by simp [hi])
      obtain ⟨y0, y1, m, e1, e2, e3, e4⟩ := ChangeShapes.trod_struct2 he hf
      rw [h0, o0, hcu] at e3
      rw [h1, o1, hcu] at e4
      obtain ⟨n0, c0, rfl, _⟩ := DataW.trod_int hu e3
      obtain ⟨n1, c1, rfl, _⟩ := DataW.trod_int hu e4
      have h2 : (xs.map (·.1))[i]? = some b.1 := by simp [hb]
      rw [hxs] at h2
      simp only [List.getElem?_map, hz, Option.map_some, Option.some.injEq] at h2
      rw [e1] at h2
      simp only [DataW.agg.injEq, List.cons.injEq, DataW.lit.injEq, Lit.int.injEq, true_and, and_true] at h2
      obtain ⟨rfl, rfl⟩ := h2
      have k0 := congrArg (·[0]?) c0
      have k1 := congrArg (·[0]?) c1
      simp only [List.getElem?_take, List.getElem?_drop] at k0 k1
      simp at k0 k1
      exact ⟨by rw [Nat.mul_comm]; exact k0, by rw [Nat.mul_comm]; exact k1⟩
    · cases h
end
end Am
end
section
namespace Am
open Go

section
variable {P : Program} {W : World} {ti tp te : TypeId}

theorem split_laid {laid : List (String × DataW Unit)} (h : laidMetH P laid W) :
    laidMet P (laid.filter fun x => x.2.handleName?.isNone) W ∧ handlesMet P (laid.filter fun x => x.2.handleName?.isSome) W := by
  unfold laidMetH at h
  split at h
  · rename_i e
    have e2 : laid.filter (fun x => x.2.handleName?.isNone) = laid := by
      rw [List.filter_eq_self]
      intro x hx
      have := List.filter_eq_nil_iff.1 e x hx
      simpa using this
    rw [e2, e]
    exact ⟨h, fun x hx => by cases hx⟩
  · rename_i x xs e
    rw [e]; exact h

def namesCheck (P : Program) (laid : List (String × DataW Unit)) (names : List (Nat × String)) : Bool :=
  names.all fun x => P.globalNamed x.2 == some x.1 && laid.any fun y => y.1 == x.2 && (errT? y.2).isSome
def errTypes (P : Program) (ti : Nat) (laid : List (String × DataW Unit)) : Bool :=
  laid.all fun y => !(errT? y.2).isSome || (match P.globalNamed y.1 with | some g => (P.globals[g]?).map (·.type) == some ti | none => true)

theorem err_noHandle {d : DataW Unit} (h : (errT? d).isSome = true) : d.handleName?.isNone = true := by
  obtain ⟨text, e⟩ := Option.isSome_iff_exists.1 h
  rw [errT_eq e]
  simp [DataW.handleName?]

theorem sents_of_row (E : ErrEnv P ti tp te) {laid : List (String × DataW Unit)} (hL : laidMetH P laid W) (hS : W.ShapedOpen P) (hg : globCheck P te = true) {names : List (Nat × String)}
    (h1 : namesCheck P laid names = true) (h2 : errTypes P ti laid = true) :
    (∀ g n, (g, n) ∈ names → P.globalNamed n = some g ∧ ∃ a, W.var? P n = some #[.iface tp (.pointer (some a))] ∧ sentW W (names.map (·.1)) g = some a) ∧
    (∀ i j a, sentW W (names.map (·.1)) i = some a → sentW W (names.map (·.1)) j = some a → i = j) ∧
    (∀ i a, sentW W (names.map (·.1)) i = some a → P.globals.size ≤ a.block ∧ ∃ c t, W.heap[a.block]? = some (.cells c t (0, 0))) := by
  obtain ⟨⟨ps, hlv, hnd, rows⟩, _⟩ := split_laid hL
  have rows' : RowsOk P W ps := rows
  have hty : ∀ n d g, (n, d) ∈ laid.filter (fun x => x.2.handleName?.isNone) → (errT? d).isSome → P.globalNamed n = some g → (P.globals[g]?).map (·.type) = some ti := by
    intro n d g hm he hgn
    have := List.all_eq_true.1 h2 (n, d) (List.mem_filter.1 hm).1
    simpa [he, hgn] using this
  have hnm : ∀ g n, (g, n) ∈ names → P.globalNamed n = some g ∧ ∃ d, (n, d) ∈ laid.filter (fun x => x.2.handleName?.isNone) ∧ (errT? d).isSome = true := by
    intro g n hm
    have := List.all_eq_true.1 h1 (g, n) hm
    simp only [Bool.and_eq_true, beq_iff_eq] at this
    obtain ⟨k1, k2⟩ := this
    obtain ⟨⟨m, d⟩, k3, k4⟩ := List.any_eq_true.1 k2
    simp only [Bool.and_eq_true, beq_iff_eq] at k4
    obtain ⟨rfl, k5⟩ := k4
    exact ⟨k1, d, List.mem_filter.2 ⟨k3, err_noHandle k5⟩, k5⟩
  have hs : ∀ g n, (g, n) ∈ names → ∃ a s, W.var? P n = some #[.iface tp (.pointer (some a))] ∧ W.cell? a = some (.string s) ∧ .cell a.block a.off ∈ ps ∧ Value.okWide P W .any 0 tp (.pointer (some a)) ∧ sentW W (names.map (·.1)) g = some a := by
    intro g n hm
    obtain ⟨k1, d, k2, k3⟩ := hnm g n hm
    obtain ⟨g', a, s, k4, k5, k6, k7, k8⟩ := errs_of E hlv rows' hty n d k2 k3
    refine ⟨a, s, k5, k6, k7, k8, ?_⟩
    have hc : W.cell? ⟨g, 0, none⟩ = some (.iface tp (.pointer (some a))) := by simpa using World.var?_cell k1 k5 0
    have hin : (names.map (·.1)).contains g = true := List.contains_iff_mem.2 (List.mem_map.2 ⟨(g, n), hm, rfl⟩)
    simp only [sentW, hin, if_true, hc]
  have hback : ∀ i a, sentW W (names.map (·.1)) i = some a → ∃ n s, (i, n) ∈ names ∧ W.var? P n = some #[.iface tp (.pointer (some a))] ∧ W.cell? a = some (.string s) ∧ .cell a.block a.off ∈ ps ∧ Value.okWide P W .any 0 tp (.pointer (some a)) := by
    intro i a h
    have hin : (names.map (·.1)).contains i = true := by
      unfold sentW at h
      split at h
      · assumption
      · cases h
    obtain ⟨⟨i', n⟩, k1, rfl⟩ := List.mem_map.1 (List.contains_iff_mem.1 hin)
    obtain ⟨a', s, k2, k3, k4, k5, k6⟩ := hs i' n k1
    rw [k6] at h; cases h
    exact ⟨n, s, k1, k2, k3, k4, k5⟩
  refine ⟨fun g n hm => ?_, fun i j a hi hj => ?_, fun i a hi => ?_⟩
  · obtain ⟨a, s, k1, _, _, _, k2⟩ := hs g n hm
    exact ⟨(hnm g n hm).1, a, k1, k2⟩
  · obtain ⟨n, _, k1, k2, _⟩ := hback i a hi
    obtain ⟨m, _, k3, k4, _⟩ := hback j a hj
    obtain ⟨e1, d1, m1, s1⟩ := hnm i n k1
    obtain ⟨e2, d2, m2, s2⟩ := hnm j m k3
    have := errs_apart E hlv rows' hnd hty n d1 m d2 a m1 s1 m2 s2 k2 k4
    subst this
    rw [e1] at e2; cases e2; rfl
  · obtain ⟨n, s, k1, k2, k3, k4, k5⟩ := hback i a hi
    exact ⟨sent_high hg hS E.hp k3 k5, (rows' _ _ k4).1⟩

/-- objects, one by one -/
def AllFrom (p : Nat → Obj → Prop) : Nat → List Obj → Prop
  | _, [] => True
  | k, o :: os => p k o ∧ AllFrom p (k + 1) os
theorem allFrom_get {p : Nat → Obj → Prop} : ∀ {k : Nat} {os : List Obj}, AllFrom p k os → ∀ {g : Nat} {o : Obj}, os[g]? = some o → p (k + g) o
  | k, o :: os, h, 0, o', e => by simp at e; subst e; exact h.1
  | k, o :: os, h, g + 1, o', e => by
    have := allFrom_get h.2 (g := g) (by simpa using e)
    rwa [show k + 1 + g = k + (g + 1) by omega] at this

theorem start_of (E : ErrEnv P ti tp te) {laid : List (String × DataW Unit)} (hL : laidMetH P laid W) (hS : W.ShapedOpen P) (hg : globCheck P te = true) {names : List (Nat × String)}
    (h1 : namesCheck P laid names = true) (h2 : errTypes P ti laid = true) {objs : List Obj} (hlen : objs.length = P.globals.size)
    (hall : (∀ g n, (g, n) ∈ names → P.globalNamed n = some g ∧ ∃ a, W.var? P n = some #[.iface tp (.pointer (some a))] ∧ sentW W (names.map (·.1)) g = some a) →
      AllFrom (fun g o => ORel P objs.length (M0 objs.length (names.map (·.1)) W) W g o) 0 objs) : Start P objs (names.map (·.1)) W := by
  obtain ⟨k1, k2, k3⟩ := sents_of_row E hL hS hg h1 h2
  refine ⟨hlen, fun g hlt => ?_, k2, k3, fun g o e => ?_⟩
  · obtain ⟨cs, t, e, _⟩ := globs hg hS hlt
    exact ⟨cs, t, e⟩
  · have := allFrom_get (hall k1) e
    rwa [Nat.zero_add] at this

theorem obj_sent (hS : W.ShapedOpen P) {names : List (Nat × String)} (hn : ∀ g n, (g, n) ∈ names → P.globalNamed n = some g ∧ ∃ a, W.var? P n = some #[.iface tp (.pointer (some a))] ∧ sentW W (names.map (·.1)) g = some a)
    {g : Nat} (n : String) {t z : Nat} (hm : (g, n) ∈ names) (hlt : g < P.globals.size) (h : rowType P g = some (t, z)) {ng : Nat} : ORel P ng (M0 ng (names.map (·.1)) W) W g (.cells t [.iface tp (.sent g)]) := by
  obtain ⟨k1, a, k2, k3⟩ := hn g n hm
  exact obj_cell hS k1 hlt h k2 (.iface (.sent k3))
end
end Am
end
section
namespace Am
open Go Go.ChangeShapes
section
variable {H : Type} {enc : TypeId × Value → H} {P : Program}

theorem post_same {f : Func} {s : ChangeSpec} {apart fresh handsOn again : Bool} {W W' : World} {args : Array Value} {v : Value} {ds gs : List (DataW H)} {before pa pv : List MemPlace}
    (hW : DataW.Whole enc P f.params.toList s.vars apart W args.toList ds gs before)
    (hres : ∀ (b : Nat) (sp : Nat → Bool) (hd : Bool), DataW.TrodAll enc P W' b sp hd f.resultTypes.toList (v.resultList f.resultTypes.size) (s.fn H (ds ++ gs)).results [])
    (hargs : ∀ sp : Nat → Bool, (∀ p ∈ before, sp p.block = true) → DataW.TrodAll enc P W' 0 sp true f.params.toList args.toList (s.fn H (ds ++ gs)).args pa)
    (hvars : ∀ sp : Nat → Bool, (∀ p ∈ before, sp p.block = true) → DataW.TrodVars enc P W' sp s.vars (s.fn H (ds ++ gs)).vars pv)
    (hps : before = pa ++ pv) (hos : W'.os = W.os) (hout : W'.output = W.output) (hk : ∀ b, b < W.heap.size → W'.heap[b]? = W.heap[b]?)
    (hok : ∀ (j : Nat) (t : TypeId) (r : Value), f.resultTypes[j]? = some t → (v.resultList f.resultTypes.size)[j]? = some r → Value.okWide P W' .any 0 t r) :
    s.post enc P f apart fresh handsOn again W args v W' := by
  have hlt : ∀ p ∈ before, p.block < W.heap.size := fun p hp => by simpa using hW.lt p hp
  have hold : ∀ p ∈ before, (fun b => decide (b < W.heap.size)) p.block = true := fun p hp => by simpa using hW.lt p hp
  have hkept : W.keptBut W' (· ∈ before) := by
    refine ⟨hos, hout, fun i hi => ?_⟩
    rw [hk i hi]
    cases W.heap[i]? with
    | none => rfl
    | some o => cases o <;> simp
  refine ⟨ds, gs, before, [], pa, pv, hW, hres _ _ _, hargs _ hold, hvars _ hold, World.keptBut_mono (fun p hp => ⟨hp, ?_⟩) hkept, fun _ => ?_⟩
  · rw [hps, List.mem_append] at hp
    exact Or.inr hp
  · obtain ⟨_, _, _, _, _, hz, hn⟩ := hW
    refine ⟨hok, _, _, ([] ++ pa) ++ pv, ⟨[] ++ pa, pv, trodAll_append (hargs _ (fun _ _ => rfl)) (hres _ _ _), hvars _ (fun _ _ => rfl), rfl, ?_, ?_⟩, ?_⟩
    · intro b off hp
      have hb : MemPlace.cell b off ∈ before := by rw [hps]; simpa using hp
      have := hz b off hb
      have e := hk b (hlt _ hb)
      simp only [World.frozen?, e] at this ⊢
      exact this
    · intro ha
      have := hn ha
      rw [hps] at this
      simpa using this
    · intro p hp _
      rw [hps]
      simpa using hp
end
end Am
end
