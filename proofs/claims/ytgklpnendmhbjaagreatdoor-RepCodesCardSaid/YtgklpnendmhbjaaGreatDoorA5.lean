/- What functions of Go's library on texts do, in the abstract machine's words. Nothing is claimed of a program here. -/
import Derived.Test.YtgklpnendmhbjaaGreatDoorA4
import Derived.Lib.Split
import Derived.Lib.SplitLaws
import Derived.Lib.Join
import Derived.Shelf.Unicode.DecodeSlow
set_option linter.unusedSimpArgs false
set_option linter.unusedVariables false
set_option linter.unusedSectionVars false
set_option linter.unnecessarySimpa false
section
namespace Am
open Go

/-! ### plain words -/

theorem idxOf_index (sub : List UInt8) : ∀ (s : List UInt8) (i : Nat), (match idxOf sub s i with | some j => (j : Int) | none => -1) = if Lib.index s sub == -1 then -1 else Lib.index s sub + i
  | [], i => by
    simp only [idxOf, Lib.index]
    cases sub <;> simp
  | c :: s, i => by
    have h := Lib.index_ge s sub
    have ih := idxOf_index sub s (i + 1)
    have e1 : idxOf sub (c :: s) i = if sub.isPrefixOf (c :: s) = true then some i else idxOf sub s (i + 1) := rfl
    have e2 : Lib.index (c :: s) sub = if sub.isPrefixOf (c :: s) = true then 0 else if Lib.index s sub == -1 then -1 else Lib.index s sub + 1 := rfl
    rw [e1, e2]
    by_cases hp : sub.isPrefixOf (c :: s) = true
    · simp only [if_pos hp]
      simp
    · simp only [if_neg hp]
      rw [ih]
      by_cases e : Lib.index s sub = -1
      · simp [e]
      · have e1 : (Lib.index s sub == -1) = false := by simpa using e
        have e2 : (Lib.index s sub + 1 == -1) = false := by simp; omega
        simp only [e1, Bool.false_eq_true, if_false, e2]
        omega

theorem idxA_index (s sub : List UInt8) : idxA s sub = Lib.index s sub := by
  refine (show idxA s sub = _ from (idxOf_index sub s 0)).trans ?_
  split
  · rename_i h; exact (beq_iff_eq.1 h).symm
  · simp

theorem index_one (c : UInt8) : ∀ (s : List UInt8), Lib.index s [c] = Lib.indexByte s c
  | [] => rfl
  | b :: s => by
    simp only [Lib.index, Lib.indexByte, index_one c s, List.isPrefixOf]
    by_cases h : c = b
    · subst h; simp
    · have h1 : (c == b) = false := by simpa using h
      have h2 : (b == c) = false := by simpa using Ne.symm h
      simp [h1, h2]

theorem idxA_byte (s : List UInt8) (c : UInt8) : idxA s [c] = Lib.indexByte s c := by rw [idxA_index, index_one]

theorem idxOf_some {sub s : List UInt8} {j : Nat} (h : idxOf sub s 0 = some j) : Lib.index s sub = j := by
  have := idxA_index s sub
  unfold idxA at this
  rw [h] at this
  exact this.symm
theorem idxOf_none {sub s : List UInt8} (h : idxOf sub s 0 = none) : Lib.index s sub = -1 := by
  have := idxA_index s sub
  unfold idxA at this
  rw [h] at this
  exact this.symm

theorem splitA_split (sep : List UInt8) (hs : sep ≠ []) : ∀ (n : Nat) (s : List UInt8), s.length ≤ n → splitA sep n s = Lib.splitK sep 0 (Lib.count s sep) s
  | 0, s, h => by
    have : s = [] := List.eq_nil_of_length_eq_zero (by omega)
    subst this
    have hi : Lib.index [] sep = -1 := by
      cases sep with
      | nil => exact absurd rfl hs
      | cons => rfl
    rw [Lib.count_miss hi]
    rfl
  | n + 1, s, h => by
    simp only [splitA]
    cases hi : idxOf sep s 0 with
    | none =>
      rw [Lib.count_miss (idxOf_none hi)]
      rfl
    | some i =>
      have hx := idxOf_some hi
      have hd := Lib.drop_shorter (s := s) hs (by rw [hx]; simp)
      rw [hx, Int.toNat_natCast] at hd
      rw [Lib.count_hit hs hx, Nat.add_comm 1, Lib.splitK]
      have e : (Lib.index s sep == -1) = false := by rw [hx]; simp
      rw [e, hx]
      simp only [Bool.false_eq_true, if_false, Int.toNat_natCast, Nat.add_zero]
      rw [splitA_split sep hs n (s.drop (i + sep.length)) (by omega)]

theorem joinA_join (sep : List UInt8) : ∀ (l : List (List UInt8)), joinA sep l = Lib.join l sep
  | [] => rfl
  | [s] => by rw [Lib.join_one]; rfl
  | s :: t :: l => by
    have ih := joinA_join sep (t :: l)
    rw [joinA, ih, Lib.join_cons, Lib.join_cons]
    · simp [Lib.joinTail, List.append_assoc]
    · intro h; cases h

/-! ### calls out of contracts -/

section
variable {P : Program} {G : Nat} {T W : Loc → Prop} {M M' : Mp} {h h' : Heap} {w w' : World}

theorem calls_steps {f : FuncId} {args : Array Value} {w : World} {c : Value} {R : World → Prop} (hc : Calls P f args w fun e w' => e = .returned c ∧ R w') (X : Ctx) :
    ∃ w', R w' ∧ Steps P (lone (Frame.enter P f args .normal) (X.fr :: X.cs) w) (lone (X.fr.finish c) X.cs w') := by
  obtain ⟨e, w', fr, ⟨rfl, hR⟩, hcm, _, hl⟩ := hc (X.fr :: X.cs)
  exact ⟨w', hR, Steps.trans hcm (.one (step_leave_returned hl))⟩

theorem Good.below (g : Good P G T M h w) (b : Go.RowKit.Below w.heap.size w w') : Good P G T M h w' where
  mok := ⟨fun c i v hp => by
      have h1 := g.mok.pins c i v hp
      rw [cell_of_heap (b.block c (World.block_lt_of_cell? w ⟨c, i, none⟩ h1))]; exact h1,
    fun n c hc => Nat.lt_of_lt_of_le (g.mok.boxlt n c hc) b.size, g.mok.boxinj, g.mok.boxpin, fun n c hc => (g.mok.boxobj n c hc).keep (b.block c (g.mok.boxlt n c hc)),
    fun s r hr => Nat.lt_of_lt_of_le (g.mok.slotlt s r hr) b.size, g.mok.slotbox, g.mok.slotinj, g.mok.slotpin,
    g.mok.sents.step rfl (fun i a h => b.block a.block (g.mok.sents.lt h)) (fun _ _ h => .inl h) (fun s r h => .inl ⟨s, r, h, rfl⟩)⟩
  glob := g.glob
  gle := g.gle
  nbeq := g.nbeq
  nseq := g.nseq
  hok := g.hok
  fbox := g.fbox
  fslot := g.fslot
  boxes := fun n o ht hx => let ⟨c, hc, ho⟩ := g.boxes n o ht hx; ⟨c, hc, ho.keep (.refl M) (b.block c (g.mok.boxlt n c hc))⟩
  slots := fun s x ht hx => (g.slots s x ht hx).keep (.refl M) rfl (fun r hr => b.block r.b (g.mok.slotlt s r hr))

theorem Stp.below (W : Loc → Prop) (M : Mp) {w w' : World} (b : Go.RowKit.Below w.heap.size w w') : Stp W M w M w' :=
  ⟨.refl M, b.size, fun c hc _ => b.block c hc, fun _ _ h => .inl h, fun _ _ h => .inl h, fun _ _ _ h => .inl h, fun _ h => .inl h, Nat.le_refl _, Nat.le_refl _, fun _ _ h _ => h, ⟨b.os, b.output⟩⟩

/-- a primitive that only tells something -/
theorem prim_same {f : FuncId} {args : Array Value} (X : Ctx) {c : Value} {v : AV} (g : Good P G T M h' w) (he : ∀ w, (callFunc f args).run P w = .ok (.enter f args) w)
    (hc : Calls P f args w fun e w' => e = .returned c ∧ w' = w) (hv : VRel P G M v c) : OpRes X P G T W M w v h' (callFunc f args) := by
  obtain ⟨w', rfl, hs⟩ := calls_steps hc X
  exact ⟨c, _, M, .enter (he _) hs, g, .refl W M _, hv⟩

theorem prim_below {f : FuncId} {args : Array Value} (X : Ctx) {c : Value} {v : AV} (g : Good P G T M h' w) (he : ∀ w, (callFunc f args).run P w = .ok (.enter f args) w)
    (hc : Calls P f args w fun e w' => e = .returned c ∧ Go.RowKit.Below w.heap.size w w') (hv : VRel P G M v c) : OpRes X P G T W M w v h' (callFunc f args) := by
  obtain ⟨w', hb, hs⟩ := calls_steps hc X
  exact ⟨c, w', M, .enter (he _) hs, g.below hb, .below W M hb, hv⟩

theorem laid_at (g : Good P G T M h w) {n k : Nat} (hn : n < P.globals.size) (hT : T (.b n)) (hg : h.get n = some (.laid k)) :
    ∃ arr el fz, w.heap[n]? = some (.cells arr el fz) ∧ LaidOk k arr := by
  obtain ⟨b, hb, arr, el, fz, h1, _, h2⟩ := g.boxes n _ hT hg
  rw [g.glob n hn] at hb; cases hb
  exact ⟨arr, el, fz, h1, h2⟩

theorem str_inv {s : List UInt8} {c : Value} (h : VRel P G M (.str s) c) : ∃ a, c = .string a ∧ a.data.toList = s := by
  cases h with
  | str h => exact ⟨_, rfl, h⟩

theorem two_args {x y : AV} {cargs : Array Value} (h : LRel P G M [x, y] cargs) : ∃ a b, cargs = #[a, b] ∧ VRel P G M x a ∧ VRel P G M y b := by
  have h2 := lrel_iff.1 h
  obtain ⟨l⟩ := cargs
  simp only at h2
  cases h2 with
  | cons h1 h2 =>
    cases h2 with
    | cons h3 h4 =>
      cases h4
      exact ⟨_, _, rfl, h1, h3⟩

theorem one_arg {x : AV} {cargs : Array Value} (h : LRel P G M [x] cargs) : ∃ a, cargs = #[a] ∧ VRel P G M x a := by
  have h2 := lrel_iff.1 h
  obtain ⟨l⟩ := cargs
  simp only at h2
  cases h2 with
  | cons h1 h2 =>
    cases h2
    exact ⟨_, rfl, h1⟩

theorem size_list (a : ByteArray) : a.size = a.data.toList.length := (Array.length_toList).symm

variable {R : RTab} {f : Nat}

theorem prim0_ok (X : Ctx) (hmx : R.mx < P.globals.size) (hE : ∀ xs w, (callFunc f xs).run P w = .ok (.enter f xs) w)
    (hC : ∀ (s sub : ByteArray) (m : Int) (w : World), s.size < 4294967281 → w.cell? ⟨R.mx, 0, none⟩ = some (.int .i64 m) →
      Calls P f #[.string s, .string sub] w fun e w' => e = .returned (.int .i64 (Lib.index s.data.toList sub.data.toList)) ∧ w' = w)
    {args : List AV} {v : AV} (e : p0 R args h = some (v, h')) {cargs : Array Value} (hL : LRel P G M args cargs) (g : Good P G T M h w) (cv : Cov T W h') : OpRes X P G T W M w v h' (callFunc f cargs) := by
  unfold p0 at e
  split at e
  · rename_i s sub
    split at e
    · rename_i hg
      split at e
      · rename_i hlt
        simp only [Option.some.injEq, Prod.mk.injEq] at e
        obtain ⟨rfl, rfl⟩ := e
        obtain ⟨a, b, rfl, ha, hb⟩ := two_args hL
        obtain ⟨s', rfl, hs⟩ := str_inv ha
        obtain ⟨t', rfl, ht⟩ := str_inv hb
        obtain ⟨arr, el, fz, h1, n, h2⟩ := laid_at g hmx cv.of_rd hg
        have hcell : w.cell? ⟨R.mx, 0, none⟩ = some (.int .i64 n) := by simp [World.cell?, h1, h2]
        have := hC s' t' n w (by rw [size_list, hs]; omega) hcell
        rw [hs, ht, ← idxA_index] at this
        exact prim_same X (g.rd _) (hE _) this .int
      · cases e
    · cases e
  · cases e

theorem prim2_ok (X : Ctx) (hmx : R.mx < P.globals.size) (hE : ∀ xs w, (callFunc f xs).run P w = .ok (.enter f xs) w) (ty : TypeId)
    (hC : ∀ (s sep : ByteArray) (m : Int) (w : World), s.size < 4294967281 → w.cell? ⟨R.mx, 0, none⟩ = some (.int .i64 m) → 1 ≤ sep.size →
      Calls P f #[.string s, .string sep] w fun e w' => e = .returned (.slice (some ⟨w.heap.size, 0, none⟩) (Lib.countB s sep + 1) (Lib.countB s sep + 1)) ∧
        w' = w.alloc (.cells ((Lib.splitB sep 0 (Lib.countB s sep) s).map Value.string).toArray ty))
    {args : List AV} {v : AV} (e : p2 R args h = some (v, h')) {cargs : Array Value} (hL : LRel P G M args cargs) (g : Good P G T M h w) (cv : Cov T W h') : OpRes X P G T W M w v h' (callFunc f cargs) := by
  unfold p2 at e
  split at e
  · rename_i s sep
    split at e
    · rename_i hg
      split at e
      · rename_i hlt
        obtain ⟨hlt, hne⟩ := hlt
        simp only [Option.some.injEq, Prod.mk.injEq] at e
        obtain ⟨rfl, rfl⟩ := e
        obtain ⟨a, b, rfl, ha, hb⟩ := two_args hL
        obtain ⟨s', rfl, hs⟩ := str_inv ha
        obtain ⟨t', rfl, ht⟩ := str_inv hb
        obtain ⟨arr, el, fz, h1, n, h2⟩ := laid_at g hmx cv.of_rd hg
        have hcell : w.cell? ⟨R.mx, 0, none⟩ = some (.int .i64 n) := by simp [World.cell?, h1, h2]
        have hsep : sep ≠ [] := by intro h; rw [h] at hne; simp at hne
        have h1s : 1 ≤ t'.size := by
          rw [size_list, ht]
          exact List.length_pos_iff.2 hsep
        obtain ⟨w', rfl, hst⟩ := calls_steps (hC s' t' n w (by rw [size_list, hs]; omega) hcell h1s) X
        have hdat := Lib.splitB_data t' 0 (Lib.countB s' t') s'
        have hsp : (Lib.splitB t' 0 (Lib.countB s' t') s').map (·.data.toList) = splitA sep s.length s := by
          rw [hdat, splitA_split sep hsep s.length s (Nat.le_refl _), ← hs, ← ht]
          try rfl
        have hlen : (splitA sep s.length s).length = Lib.countB s' t' + 1 := by
          rw [← hsp, List.length_map]
          exact Lib.splitB_all t' h1s 0 _ s' rfl
        have g1 := (g.rd R.mx).addPins ((Lib.splitB t' 0 (Lib.countB s' t') s').map Value.string).toArray ty (0, 0)
        refine ⟨_, _, _, .enter (hE _ _) hst, g1, Stp.addPins W g.mok _ ty (0, 0), ?_⟩
        have hget : ∀ i, i < (splitA sep s.length s).length → ∃ x : ByteArray, (Lib.splitB t' 0 (Lib.countB s' t') s')[i]? = some x ∧ x.data.toList = (splitA sep s.length s).getD i [] := by
          intro i hi
          have h3 : i < (Lib.splitB t' 0 (Lib.countB s' t') s').length := by rw [← List.length_map (·.data.toList), hsp]; exact hi
          refine ⟨(Lib.splitB t' 0 (Lib.countB s' t') s')[i], by simp [h3], ?_⟩
          rw [← hsp]
          simp [h3]
        have := VRel.slice (P := P) (G := G) (M := M.addPins w.heap.size fun o => ((Lib.splitB t' 0 (Lib.countB s' t') s').map Value.string).toArray[o]?) (xs := (splitA sep s.length s).map AV.str) (p := .ro) (b := w.heap.size) (o := 0) (cap := Lib.countB s' t' + 1) (sz := 1)
          (fun i => .string ((Lib.splitB t' 0 (Lib.countB s' t') s').getD i ByteArray.empty))
          (fun i hi => by
            rw [List.length_map] at hi
            simp only [List.getD_eq_getElem?_getD, List.getElem?_map, List.getElem?_eq_getElem hi, Option.map_some, Option.getD_some]
            exact ⟨rfl, rfl, rfl⟩)
          (fun i hi j hj => by
            rw [List.length_map] at hi
            obtain ⟨x, hx, _⟩ := hget i hi
            have : j = 0 := by omega
            subst this
            simp only [Mp.addPins, if_true, Nat.zero_add, Nat.mul_one, Nat.add_zero, List.getElem?_toArray, List.getElem?_map, hx, Option.map_some, List.getD_eq_getElem?_getD, Option.getD_some]
            rfl)
          (fun i hi => by
            rw [List.length_map] at hi
            obtain ⟨x, hx, hd⟩ := hget i hi
            simp only [List.getD_eq_getElem?_getD, List.getElem?_map, List.getElem?_eq_getElem hi, Option.map_some, Option.getD_some, hx]
            refine .str ?_
            rw [hd]
            simp [hi])
          (by rw [List.length_map, hlen]; exact Nat.le_refl _) trivial
        rw [List.length_map, hlen] at this
        exact this
      · cases e
    · cases e
  · cases e

theorem prim4_ok (X : Ctx) (hE : ∀ xs w, (callFunc f xs).run P w = .ok (.enter f xs) w)
    (hC : ∀ (s : ByteArray) (c : Int) (w : World), Calls P f #[.string s, .int .u8 c] w fun e w' => e = .returned (.int .i64 (Lib.indexByte s.data.toList c.toNat.toUInt8)) ∧ w' = w)
    {args : List AV} {v : AV} (e : p4 args h = some (v, h')) {cargs : Array Value} (hL : LRel P G M args cargs) (g : Good P G T M h w) : OpRes X P G T W M w v h' (callFunc f cargs) := by
  unfold p4 at e
  split at e
  · rename_i s c
    simp only [Option.some.injEq, Prod.mk.injEq] at e
    obtain ⟨rfl, rfl⟩ := e
    obtain ⟨a, b, rfl, ha, hb⟩ := two_args hL
    obtain ⟨s', rfl, hs⟩ := str_inv ha
    cases hb with | int =>
    have := hC s' c w
    rw [hs, ← idxA_byte] at this
    exact prim_same X g (hE _) this .int
  · cases e

theorem strs_spec : ∀ {xs : List AV} {l : List (List UInt8)}, strs xs = some l → xs = l.map AV.str
  | [], l, e => by simp [strs] at e; subst e; rfl
  | x :: xs, l, e => by
    cases x <;> simp only [strs, reduceCtorEq, Option.map_eq_some_iff] at e
    obtain ⟨l', h1, rfl⟩ := e
    rw [strs_spec h1]; rfl

theorem mk_list (l : List UInt8) : (⟨l.toArray⟩ : ByteArray).data.toList = l := by simp

theorem slice_nil_inv {p : Perm} {c : Value} (h : VRel P G M (.slice [] p) c) : ∃ ad n, c = .slice ad 0 n := by
  cases h with
  | sliceNil => exact ⟨none, 0, rfl⟩
  | slice => exact ⟨_, _, rfl⟩

theorem prim3_ok (X : Ctx) (hE : ∀ xs w, (callFunc f xs).run P w = .ok (.enter f xs) w)
    (hN : ∀ (a : Option Addr) (c : Nat) (sep : ByteArray) (w : World), Calls P f #[.slice a 0 c, .string sep] w fun e w' => e = .returned (.string ⟨#[]⟩) ∧ w' = w)
    (hC : ∀ (bk o c : Nat) (xs : List ByteArray) (sep : ByteArray) (w : World), (∀ (j : Nat) x, xs[j]? = some x → w.cell? ⟨bk, o + j, none⟩ = some (.string x)) → bk < w.heap.size → xs.length ≤ 140737488355328 → xs.length ≤ c →
      (Lib.join (xs.map (·.data.toList)) sep.data.toList).length ≤ 140737488355328 →
      Calls P f #[.slice (some ⟨bk, o, none⟩) xs.length c, .string sep] w fun e w' => e = .returned (.string ⟨(Lib.join (xs.map (·.data.toList)) sep.data.toList).toArray⟩) ∧ Go.RowKit.Below w.heap.size w w')
    {args : List AV} {v : AV} (e : p3 args h = some (v, h')) {cargs : Array Value} (hL : LRel P G M args cargs) (g : Good P G T M h w) : OpRes X P G T W M w v h' (callFunc f cargs) := by
  unfold p3 at e
  split at e
  · rename_i xs pm sep
    split at e
    · rename_i l hl
      split at e
      · rename_i hlt
        simp only [Option.some.injEq, Prod.mk.injEq] at e
        obtain ⟨rfl, rfl⟩ := e
        obtain ⟨a, b, rfl, ha, hb⟩ := two_args hL
        obtain ⟨t', rfl, ht⟩ := str_inv hb
        have hxs := strs_spec hl
        subst hxs
        by_cases h0 : l = []
        · subst h0
          have : ∃ ad c, a = .slice ad 0 c := slice_nil_inv ha
          obtain ⟨ad, c, rfl⟩ := this
          exact prim_same X g (hE _) (hN ad c t' w) (.str rfl)
        · have : ∃ bk o cap, a = .slice (some ⟨bk, o, none⟩) l.length cap ∧ l.length ≤ cap ∧ ∀ i, i < l.length → ∃ x : ByteArray, x.data.toList = l.getD i [] ∧ M.pin bk (o + i) = some (.string x) := by
            generalize hq : AV.slice (List.map AV.str l) pm = q at ha
            cases ha <;> first | cases hq; done | skip
            · simp only [AV.slice.injEq] at hq
              obtain ⟨h1, _⟩ := hq
              cases l with
              | nil => exact absurd rfl h0
              | cons => simp at h1
            · rename_i xs2 p2 bk o cap sz vals h1 h2 h3 h4 h5
              simp only [AV.slice.injEq] at hq
              obtain ⟨rfl, _⟩ := hq
              rw [List.length_map] at h1 h2 h3 h4 ⊢
              refine ⟨bk, o, cap, rfl, h4, fun i hi => ?_⟩
              have hr := h3 i hi
              simp only [List.getD_eq_getElem?_getD, List.getElem?_map, List.getElem?_eq_getElem hi, Option.map_some, Option.getD_some] at hr
              obtain ⟨x, hx, hd⟩ := str_inv hr
              have hsz := (h1 i hi).1
              rw [hx] at hsz
              have hsz : sz = 1 := hsz.symm
              subst hsz
              have hp := h2 i hi 0 (by omega)
              rw [hx] at hp
              refine ⟨x, by rw [hd]; simp [hi], ?_⟩
              rw [Nat.mul_one, Nat.add_zero] at hp
              exact hp
          obtain ⟨bk, o, cap, rfl, hcap, hx⟩ := this
          have hxl : ∃ bs : List ByteArray, bs.length = l.length ∧ ∀ i, i < l.length → (bs.getD i ByteArray.empty).data.toList = l.getD i [] ∧ M.pin bk (o + i) = some (.string (bs.getD i ByteArray.empty)) := by
            refine ⟨(List.range l.length).map fun i => if h : i < l.length then Classical.choose (hx i h) else ByteArray.empty, by simp, fun i hi => ?_⟩
            have := Classical.choose_spec (hx i hi)
            simp only [List.getD_eq_getElem?_getD, List.getElem?_map, List.getElem?_range hi, Option.map_some, Option.getD_some, dif_pos hi] at this ⊢
            exact this
          obtain ⟨bs, hbl, hbs⟩ := hxl
          have hmap : bs.map (·.data.toList) = l := by
            apply List.ext_getElem?
            intro i
            by_cases hi : i < l.length
            · have h1 := (hbs i hi).1
              have hi2 : i < bs.length := by omega
              simp only [List.getD_eq_getElem?_getD, List.getElem?_eq_getElem hi2, List.getElem?_eq_getElem hi, Option.getD_some] at h1
              simp only [List.getElem?_map, List.getElem?_eq_getElem hi2, List.getElem?_eq_getElem hi, Option.map_some, h1]
            · simp [List.getElem?_eq_none (show l.length ≤ i by omega)]; omega
          have hcell : ∀ (j : Nat) x, bs[j]? = some x → w.cell? ⟨bk, o + j, none⟩ = some (.string x) := by
            intro j x hj
            have hlt2 : j < bs.length := by
              rcases Nat.lt_or_ge j bs.length with h | h
              · exact h
              · simp [List.getElem?_eq_none h] at hj
            have := (hbs j (by omega)).2
            simp only [List.getD_eq_getElem?_getD, hj, Option.getD_some] at this
            exact g.mok.pins _ _ _ this
          have hlt2 : bk < w.heap.size := by
            have : 0 < l.length := List.length_pos_iff.2 h0
            exact World.block_lt_of_cell? w ⟨bk, o + 0, none⟩ (g.mok.pins _ _ _ (hbs 0 this).2)
          have := hC bk o cap bs t' w hcell hlt2 (by omega) (by omega) (by rw [hmap, ht, ← joinA_join]; omega)
          rw [hmap, ht, ← joinA_join, hbl] at this
          exact prim_below X g (hE _) this (.str (mk_list _))
      · cases e
    · cases e
  · cases e
end
end Am
end
section
namespace Am
open Go Go.Extern.Rtype

/-! ### types, looked at -/

def underP (P : Program) (t : Nat) : Option (Nat × TypeInfo) := match P.info? t with
  | some i => match i.desc with
    | .named _ u => (P.info? u).map fun j => (u, j)
    | _ => some (t, i)
  | none => none

def kindI (i : TypeInfo) : Option Nat := match i.desc with
  | .bool => some 1
  | .int .u8 => some 8
  | .array _ _ => some 17 | .chan _ _ => some 18 | .func _ _ _ => some 19 | .interface _ => some 20 | .map _ _ => some 21
  | .pointer _ => some 22 | .slice _ => some 23 | .string => some 24 | .struct _ => some 25
  | _ => none

def kindP (P : Program) (t : Nat) : Option Nat := (underP P t).bind fun x => kindI x.2

def elemP (P : Program) (t : Nat) : Option Nat := match underP P t with
  | some (_, i) => match i.desc with
    | .pointer e => some e
    | _ => none
  | none => none

def namedP (P : Program) (t : Nat) : Option Bool := (P.info? t).map fun i => match i.desc with
  | .named _ _ | .bool | .int _ | .float _ | .complex _ | .string | .unsafePointer => true
  | _ => false

/-- may a value of one of two types, pointers or structs both, be assigned to the other? -/
def asgP (P : Program) (u t : Nat) : Bool :=
  !P.methodsOfAPack P.depth t && !P.methodsOfAPack P.depth u &&
  match underP P u, underP P t, namedP P u, namedP P t with
  | some (a, i), some (b, j), some n, some m =>
    (match i.desc with | .struct _ | .pointer _ => true | _ => false) && (match j.desc with | .struct _ | .pointer _ => true | _ => false) &&
    ((n && m) || a != b)
  | _, _, _, _ => false

def asgIP (P : Program) (t : Nat) : Bool :=
  !P.methodsOfAPack P.depth t && (match underP P t with | some (_, i) => (match i.desc with | .struct _ | .pointer _ => true | _ => false) | none => false)

def implP (P : Program) (u t : Nat) : Option Bool :=
  if P.methodsOfAPack P.depth t || P.methodsOfAPack P.depth u || P.packed u then none else
  match underP P u, underP P t, P.info? t with
  | some (_, i), some (_, j), some k => match i.desc, j.desc with
    | .interface _, .interface _ => none
    | .interface want, _ => some (hasAll want k.methods)
    | _, _ => none
  | _, _, _ => none

section
variable {P : Program} {G : Nat} {T W : Loc → Prop} {M M' : Mp} {h h' : Heap} {w w' : World}

theorem run_typeInfo {t : Nat} {i : TypeInfo} (e : P.info? t = some i) (w : World) : (typeInfo t).run P w = .ok i w := by
  simp only [typeInfo, Sem.run_bind, run_program, Result.andThen_ok, e, Sem.run_pure]

theorem run_under {t : Nat} {x : Nat × TypeInfo} (e : underP P t = some x) (w : World) : (under t).run P w = .ok x w := by
  unfold underP at e
  cases hi : P.info? t with
  | none => simp [hi] at e
  | some i =>
    simp only [hi] at e
    simp only [under, Sem.run_bind, run_typeInfo hi, Result.andThen_ok]
    split at e
    · rename_i n u hd
      simp only [Option.map_eq_some_iff] at e
      obtain ⟨j, hj, rfl⟩ := e
      simp only [hd, Sem.run_bind, run_typeInfo hj, Result.andThen_ok, Sem.run_pure]
    · rename_i hd
      simp only [Option.some.injEq] at e
      subst e
      cases hdd : i.desc <;> first | (exact absurd hdd (hd _ _)) | rfl

theorem run_kind {t k : Nat} (e : kindP P t = some k) (w : World) : (kind t).run P w = .ok k w := by
  unfold kindP at e
  cases hu : underP P t with
  | none => simp [hu] at e
  | some x =>
    simp only [hu, Option.bind_some] at e
    simp only [kind, Sem.run_bind, run_under hu, Result.andThen_ok]
    unfold kindI at e
    split at e <;> first | (cases e; done) | skip
    all_goals
      rename_i hd
      simp only [Option.some.injEq] at e
      subst e
      simp only [hd, Sem.run_pure]

theorem run_elem {t e' : Nat} (e : elemP P t = some e') (w : World) : (elem? t).run P w = .ok (some e') w := by
  unfold elemP at e
  cases hu : underP P t with
  | none => simp [hu] at e
  | some x =>
    obtain ⟨a, i⟩ := x
    simp only [hu] at e
    split at e
    · rename_i e2 hd
      cases e
      simp only [elem?, Sem.run_bind, run_under hu, Result.andThen_ok, hd, Sem.run_pure]
    · cases e

theorem run_named {t : Nat} {b : Bool} (e : namedP P t = some b) (w : World) : (hasName t).run P w = .ok b w := by
  unfold namedP at e
  simp only [Option.map_eq_some_iff] at e
  obtain ⟨i, hi, rfl⟩ := e
  simp only [hasName, Sem.run_bind, run_typeInfo hi, Result.andThen_ok]
  cases i.desc <;> rfl

theorem run_noPack {t : Nat} (e : P.packed t = false) (s : String) (w : World) : (noPack s t).run P w = .ok () w := by
  simp only [noPack, Sem.run_bind, run_program, Result.andThen_ok, e, Bool.false_eq_true, if_false, Sem.run_pure]
theorem run_noPackHeld {t : Nat} (e : P.holdsPacked P.depth t = false) (s : String) (w : World) : (noPackHeld s t).run P w = .ok () w := by
  simp only [noPackHeld, Sem.run_bind, run_program, Result.andThen_ok, e, Bool.false_eq_true, if_false, Sem.run_pure]
theorem run_noPackMethods {t : Nat} (e : P.methodsOfAPack P.depth t = false) (s : String) (w : World) : (noPackMethods s t).run P w = .ok () w := by
  simp only [noPackMethods, Sem.run_bind, run_program, Result.andThen_ok, e, Bool.false_eq_true, if_false, Sem.run_pure]

theorem run_ofHandle (t : Nat) (w : World) : (ofHandle (typeHandle P t)).run P w = .ok t w := by
  simp [ofHandle, Sem.run_bind, run_program, handleType, typeHandle, Result.andThen_ok, Sem.run_pure]
theorem run_handle (t : Nat) (w : World) : (handle t).run P w = .ok (typeHandle P t) w := by
  simp only [handle, Sem.run_bind, run_program, Result.andThen_ok, Sem.run_pure]

/-- what the table says of the program's types is so -/
structure RtOk (P : Program) (R : RTab) : Prop where
  kind : ∀ t i, R.get t = some i → kindP P t = some i.kind
  pack : ∀ t i, R.get t = some i → P.packed t = false
  held : ∀ t i, R.get t = some i → P.holdsPacked P.depth t = false
  cmp : ∀ t i, R.get t = some i → (P.info? t).map (·.comparable) = some i.cmp
  elem : ∀ t i e, R.get t = some i → i.elem = some e → elemP P t = some e ∧ P.underlying t = some (.pointer e)
  agg : ∀ t i, R.get t = some i → isAggT P t = i.agg
  size : ∀ t i, R.get t = some i → sizeT P t = some i.size
  toType : ∀ t w, (Go.Extern.ReflectliteType.toType t).run P w = .ok (.iface R.rtype (.agg #[typeHandle P t])) w
  asg : ∀ t u, R.asg.contains t = true → R.asg.contains u = true → t ≠ u → asgP P u t = true
  asgI : ∀ t, R.asg.contains t = true → asgIP P t = true
  asgS : ∀ t, R.asg.contains t = true → P.packed t = false
  impl : ∀ t u b, R.impl.lookup (t, u) = some b → implP P u t = some b ∧ kindP P u = some 20 ∧ P.packed t = false

variable {R : RTab} {f : Nat}

theorem ext_ok (X : Ctx) {e : Array Value → Sem Value} {cargs : Array Value} {v : AV} (hE : ∀ xs w, (callFunc f xs).run P w = ((e xs).run P w).andThen fun v w' => .ok (.value v) w')
    (r : SR P G T W M w v h' (e cargs)) : OpRes X P G T W M w v h' (callFunc f cargs) := by
  obtain ⟨c, w', M', h1, h2, h3, h4⟩ := r
  exact ⟨c, w', M', .value (by rw [hE, h1]; rfl), h2, h3, h4⟩

theorem hdl_inv {t : Nat} {c : Value} (h : VRel P G M (.hdl t) c) : c = typeHandle P t := by cases h; rfl
theorem agg1_inv {x : AV} {c : Value} (h : VRel P G M (.agg [x]) c) : ∃ a, c = .agg #[a] ∧ VRel P G M x a := by
  cases h with
  | agg hl hc =>
    obtain ⟨a, rfl, ha⟩ := one_arg (cargs := _) ⟨hl, hc⟩
    exact ⟨a, rfl, ha⟩
theorem agg3_inv {x y z : AV} {c : Value} (h : VRel P G M (.agg [x, y, z]) c) : ∃ a b d, c = .agg #[a, b, d] ∧ VRel P G M x a ∧ VRel P G M y b ∧ VRel P G M z d := by
  cases h with
  | @agg _ vs hl hc =>
    have h2 := lrel_iff.1 (show LRel P G M [x, y, z] vs from ⟨hl, hc⟩)
    obtain ⟨l⟩ := vs
    simp only at h2
    cases h2 with
    | cons h1 h2 =>
      cases h2 with
      | cons h3 h4 =>
        cases h4 with
        | cons h5 h6 =>
          cases h6
          exact ⟨_, _, _, rfl, h1, h3, h5⟩

theorem rval_inv {t n off : Nat} {fl : Int} {c : Value} (h : VRel P G M (.agg [.hdl t, .ptr n off, .int .u64 fl]) c) :
    ∃ b, M.box n = some b ∧ c = .agg #[typeHandle P t, .pointer (some ⟨b, off, none⟩), .int .u64 fl] := by
  obtain ⟨a, b, d, rfl, h1, h2, h3⟩ := agg3_inv h
  cases hdl_inv h1
  cases h2 with
  | ptr hb =>
    cases h3
    exact ⟨_, hb, rfl⟩

theorem partsAny_eq {x : Value} {a : Addr} : ∀ {fl : Int}, fl ≠ 0 →
    Go.Extern.ReflectliteValue.partsAny (.agg #[x, .pointer (some a), .int .u64 fl]) = (do Pure.pure (some (← ofHandle x, a, fl.toNat)))
  | .ofNat 0, h => absurd rfl h
  | .ofNat (_ + 1), _ => rfl
  | .negSucc _, _ => rfl

theorem run_partsAny {t : Nat} {a : Addr} {fl : Int} (hf : fl ≠ 0) (w : World) :
    (Go.Extern.ReflectliteValue.partsAny (.agg #[typeHandle P t, .pointer (some a), .int .u64 fl])).run P w = .ok (some (t, a, fl.toNat)) w := by
  rw [partsAny_eq hf]
  simp only [Sem.run_bind, run_ofHandle, Result.andThen_ok, Sem.run_pure]

theorem method_eq (z : Sem Value) (F : TypeId → Addr → Nat → Nat → Sem Value) (x : Value) : Go.Extern.ReflectliteValue.method z F #[x] =
    (do match ← Go.Extern.ReflectliteValue.parts x with | none => z | some (t, a, fl) => F t a fl (fl % 32)) := rfl
theorem methodAny_eq (z : Sem Value) (F : TypeId → Addr → Nat → Nat → Sem Value) (x : Value) : Go.Extern.ReflectliteValue.methodAny z F #[x] =
    (do match ← Go.Extern.ReflectliteValue.partsAny x with | none => z | some (t, a, fl) => F t a fl (fl % 32)) := rfl

theorem run_parts {t : Nat} {a : Addr} {fl : Int} (hf : fl ≠ 0) (hp : P.packed t = false) (w : World) :
    (Go.Extern.ReflectliteValue.parts (.agg #[typeHandle P t, .pointer (some a), .int .u64 fl])).run P w = .ok (some (t, a, fl.toNat)) w := by
  simp only [Go.Extern.ReflectliteValue.parts, Sem.run_bind, run_partsAny hf, Result.andThen_ok, run_noPack hp, Sem.run_pure]

theorem p10_ok (X : Ctx) (ro : RtOk P R) (hE : ∀ xs w, (callFunc f xs).run P w = ((Go.Extern.ReflectliteValue.unpack (xs.getD 0 (.tuple #[]))).run P w).andThen fun v w' => .ok (.value v) w')
    {args : List AV} {v : AV} (e : p10 R args h = some (v, h')) {cargs : Array Value} (hL : LRel P G M args cargs) (g : Good P G T M h w) : OpRes X P G T W M w v h' (callFunc f cargs) := by
  unfold p10 at e
  split at e
  · rename_i t x
    split at e
    · rename_i i cs hi hcs
      simp only [Option.some.injEq, Prod.mk.injEq] at e
      obtain ⟨rfl, rfl⟩ := e
      obtain ⟨a, rfl, ha⟩ := one_arg hL
      cases ha with | @iface _ _ c hc =>
      refine ext_ok X (e := fun xs => Go.Extern.ReflectliteValue.unpack (xs.getD 0 (.tuple #[]))) hE ?_
      obtain ⟨w', M', k1, k2, k3, k4⟩ := newVar_ok (W := W) (t := t) g hc hcs
      refine ⟨.agg #[typeHandle P t, .pointer (some ⟨w.heap.size, 0, none⟩), .int .u64 (Int.ofNat (i.kind + Go.Extern.ReflectliteValue.flagIndir + 0))], w', M', ?_, k3, k4, ?_⟩
      · show Sem.run P (Go.Extern.ReflectliteValue.unpack (.iface t c)) w = _
        simp only [Go.Extern.ReflectliteValue.unpack, Go.Extern.ReflectliteValue.mk, Sem.run_bind, k1, Result.andThen_ok, run_handle, run_kind (ro.kind t i hi), Sem.run_pure]
      · have e2 : (Int.ofNat (i.kind + Go.Extern.ReflectliteValue.flagIndir + 0)) = (i.kind : Int) + 128 := by simp [Go.Extern.ReflectliteValue.flagIndir]
        rw [e2]
        exact (LRel.cons .hdl (LRel.cons (.ptr k2) (LRel.cons .int .nil))).agg
    · cases e
  · cases e

theorem p11_ok (X : Ctx) (ro : RtOk P R) {z : Sem Value} (hE : ∀ xs w, (callFunc f xs).run P w = ((Go.Extern.ReflectliteValue.methodAny z (fun t _ _ _ => Go.Extern.ReflectliteType.toType t) xs).run P w).andThen fun v w' => .ok (.value v) w')
    {args : List AV} {v : AV} (e : p11 R args h = some (v, h')) {cargs : Array Value} (hL : LRel P G M args cargs) (g : Good P G T M h w) : OpRes X P G T W M w v h' (callFunc f cargs) := by
  unfold p11 at e
  split at e
  · rename_i t n off fl
    split at e
    · rename_i hc
      simp only [Option.some.injEq, Prod.mk.injEq] at e
      obtain ⟨rfl, rfl⟩ := e
      obtain ⟨a, rfl, ha⟩ := one_arg hL
      obtain ⟨b, hb, rfl⟩ := rval_inv ha
      refine ext_ok X (e := Go.Extern.ReflectliteValue.methodAny z (fun t _ _ _ => Go.Extern.ReflectliteType.toType t)) hE (.pure g (c := .iface R.rtype (.agg #[typeHandle P t])) ?_ (.iface (LRel.cons .hdl .nil).agg))
      simp only [methodAny_eq, Sem.run_bind, run_partsAny (show fl ≠ 0 by omega), Result.andThen_ok, ro.toType]
    · cases e
  · cases e

theorem loadA_ok (g : Good P G T M h w) {t : TypeId} {sz n off : Nat} {v : AV} {b : Nat} (hs : sizeT P t = some sz) (hb : M.box n = some b)
    (e : loadA (isAggT P t) sz h n off = some (v, h')) (cv : Cov T W h') : ∃ c, (loadVar t ⟨b, off, none⟩).run P w = .ok c w ∧ VRel P G M v c ∧ Good P G T M h' w := by
  unfold loadA at e
  split at e
  · rename_i cs hg
    split at e
    · rename_i u hv
      cases e
      obtain ⟨b', hb', arr, el, fz, h1, _, h3, h4⟩ := g.boxes n _ cv.of_rd hg
      rw [hb] at hb'; cases hb'
      obtain ⟨c, hc, hv'⟩ := loadVar_ok (P := P) (w := w) (M := M) (G := G) (b := b) (o := 0) (f := fun i => arr.getD i undef) hs
        (fun i hi => by rw [Nat.zero_add]; exact cells_get h1 (by omega)) h4 hv
      rw [Nat.zero_add] at hc
      exact ⟨c, hc, hv', g.rd n⟩
    · cases e
  · cases e

theorem p12_ok (X : Ctx) (ro : RtOk P R) {z : Sem Value} (hE : ∀ xs w, (callFunc f xs).run P w = ((Go.Extern.ReflectliteValue.method z Go.Extern.ReflectliteValue.isNil xs).run P w).andThen fun v w' => .ok (.value v) w')
    (h1 : ∀ t i, R.get t = some i → i.kind = 22 → i.agg = false ∧ i.size = 1)
    {args : List AV} {v : AV} (e : p12 R args h = some (v, h')) {cargs : Array Value} (hL : LRel P G M args cargs) (g : Good P G T M h w) (cv : Cov T W h') : OpRes X P G T W M w v h' (callFunc f cargs) := by
  unfold p12 at e
  split at e
  · rename_i t n off fl
    split at e
    · rename_i i hi
      split at e
      · rename_i hk
        obtain ⟨hk1, hk2, hk3⟩ := hk
        obtain ⟨a, rfl, ha⟩ := one_arg hL
        obtain ⟨b, hb, rfl⟩ := rval_inv ha
        obtain ⟨q1, q2⟩ := h1 t i hi hk1
        have hs := ro.size t i hi
        have hag := ro.agg t i hi
        rw [q2] at hs
        rw [q1] at hag
        refine ext_ok X (e := Go.Extern.ReflectliteValue.method z Go.Extern.ReflectliteValue.isNil) hE ?_
        have hrun : ∀ q : Option Addr, (loadVar t ⟨b, off, none⟩).run P w = .ok (.pointer q) w → (Go.Extern.ReflectliteValue.method z Go.Extern.ReflectliteValue.isNil #[.agg #[typeHandle P t, .pointer (some ⟨b, off, none⟩), .int .u64 fl]]).run P w =
            .ok (.bool q.isNone) w := by
          intro q hc
          have hcont : ([18, 19, 20, 21, 22, 23, 26].contains (fl.toNat % 32)) = true := by rw [hk2]; rfl
          simp only [method_eq, Go.Extern.ReflectliteValue.isNil, Sem.run_bind, run_parts (show fl ≠ 0 by omega) (ro.pack t i hi), Result.andThen_ok, hcont, Bool.not_true, Bool.false_eq_true, if_false, hc]
          cases q <;> rfl
        split at e
        · rename_i h2 hl
          cases e
          rw [← hag] at hl
          obtain ⟨c, hc, hv, g'⟩ := loadA_ok g hs hb hl cv
          cases hv
          exact .pure g' (hrun _ hc) .bool
        · rename_i m o h2 hl
          cases e
          rw [← hag] at hl
          obtain ⟨c, hc, hv, g'⟩ := loadA_ok g hs hb hl cv
          cases hv
          exact .pure g' (hrun _ hc) .bool
        · cases e
      · cases e
    · cases e
  · cases e

theorem p13_ok (X : Ctx) (ro : RtOk P R) {z : Sem Value} (hE : ∀ xs w, (callFunc f xs).run P w = ((Go.Extern.ReflectliteValue.method z Go.Extern.ReflectliteValue.elem xs).run P w).andThen fun v w' => .ok (.value v) w')
    (h1 : ∀ t i, R.get t = some i → i.kind = 22 → i.agg = false ∧ i.size = 1)
    {args : List AV} {v : AV} (e : p13 R args h = some (v, h')) {cargs : Array Value} (hL : LRel P G M args cargs) (g : Good P G T M h w) (cv : Cov T W h') : OpRes X P G T W M w v h' (callFunc f cargs) := by
  unfold p13 at e
  split at e
  · rename_i t n off fl
    split at e
    · rename_i i hi
      split at e
      · rename_i el hel
        split at e
        · rename_i j hj
          split at e
          · rename_i hk
            obtain ⟨hk1, hk2, hk3⟩ := hk
            obtain ⟨a, rfl, ha⟩ := one_arg hL
            obtain ⟨b, hb, rfl⟩ := rval_inv ha
            obtain ⟨q1, q2⟩ := h1 t i hi hk1
            have hs := ro.size t i hi
            have hag := ro.agg t i hi
            rw [q2] at hs
            rw [q1] at hag
            refine ext_ok X (e := Go.Extern.ReflectliteValue.method z Go.Extern.ReflectliteValue.elem) hE ?_
            split at e
            · rename_i m o h2 hl
              cases e
              rw [← hag] at hl
              obtain ⟨c, hc, hv, g'⟩ := loadA_ok g hs hb hl cv
              cases hv with
              | @ptr _ _ b2 hb2 =>
                refine .pure g' (c := .agg #[typeHandle P el, .pointer (some ⟨b2, o, none⟩), .int .u64 (Int.ofNat (j.kind + Go.Extern.ReflectliteValue.flagIndir + Go.Extern.ReflectliteValue.flagAddr))]) ?_ ?_
                · have he := run_elem (ro.elem t i el hi hel).1 w
                  have hif : ((22 : Nat) != 20 && (22 : Nat) != 22) = false := rfl
                  simp only [method_eq, Go.Extern.ReflectliteValue.elem, Sem.run_bind, run_parts (show fl ≠ 0 by omega) (ro.pack t i hi), Result.andThen_ok, hk2, hif, Bool.false_eq_true, if_false]
                  rw [hc]
                  simp only [Result.andThen_ok]
                  rw [he]
                  simp only [Result.andThen_ok, Go.Extern.ReflectliteValue.mk, Sem.run_bind, run_handle, run_kind (ro.kind el j hj), Sem.run_pure]
                · have e2 : (Int.ofNat (j.kind + Go.Extern.ReflectliteValue.flagIndir + Go.Extern.ReflectliteValue.flagAddr)) = (j.kind : Int) + 128 + 256 := by simp [Go.Extern.ReflectliteValue.flagIndir, Go.Extern.ReflectliteValue.flagAddr]
                  rw [e2]
                  exact (LRel.cons .hdl (LRel.cons (.ptr hb2) (LRel.cons .int .nil))).agg
            · cases e
          · cases e
        · cases e
      · cases e
    · cases e
  · cases e
end
end Am
end
section
namespace Am
open Go Go.Extern.Rtype

section
variable {P : Program} {G : Nat} {T W : Loc → Prop} {M M' : Mp} {h h' : Heap} {w w' : World} {R : RTab} {f : Nat}

theorem storeAt_eq (t : TypeId) (a : Addr) (c : Value) (w : World) : (Instr.storeAt t (.pointer (some a)) c).run P w = (storeVar t a c).run P w := by
  simp only [Instr.storeAt, Instr.sureAddr, Sem.run_bind, Sem.run_pure, Result.andThen_ok]

theorem storeA_ok (g : Good P G T M h w) {t : TypeId} {sz n off : Nat} {v : AV} {c : Value} {b : Nat} (hs : sizeT P t = some sz) (hb : M.box n = some b) (hv : VRel P G M v c)
    (e : storeA G sz h n off v = some h') (cv : Cov T W h') : ∃ w', (storeVar t ⟨b, off, none⟩ c).run P w = .ok () w' ∧ Good P G T M h' w' ∧ Stp W M w M w' := by
  unfold storeA at e
  split at e
  · rename_i vs ty cs hvs hg
    split at e
    · rename_i hc
      obtain ⟨hl, hle, ha, hG⟩ := hc
      cases e
      obtain ⟨w', k1, k2, k3⟩ := store_ok g hs (.ptr hb) hv hvs hg hl hle hG ha cv
      rw [storeAt_eq] at k1
      exact ⟨w', k1, k2, k3⟩
    · cases e
  · cases e

theorem set_eq (v x : Value) : Go.Extern.ReflectliteValue.set #[v, x] = (do
    let (some (dst, a, fl), some (src, b, _)) := (← Go.Extern.ReflectliteValue.parts v, ← Go.Extern.ReflectliteValue.parts x)
      | unsupported (.noEntry "extern/(internal/reflectlite.Value).Set.zeroValue")
    if fl / Go.Extern.ReflectliteValue.flagAddr % 2 == 0 then unsupported (.noEntry "extern/(internal/reflectlite.Value).Set.unaddressable")
    let val ← loadVar src b
    if ← directlyAssignable dst src then storeVar dst a val
    else if ← implements dst src then
      if (← kind src) == 20 then
        match val with
        | .nilIface => unsupported (.noEntry "extern/reflectlite: a nil value of one interface type handed on as a value of another")
        | _ => storeVar dst a val
      else storeVar dst a (.iface src val)
    else panicString ("reflectlite.Set: value of type " ++ (← spelt src) ++ " is not assignable to type " ++ (← spelt dst))
    Pure.pure (.tuple #[])) := rfl

theorem run_direct (t : TypeId) (w : World) : (directlyAssignable t t).run P w = .ok true w := by
  simp only [directlyAssignable, beq_self_eq_true, if_true]
  rfl

theorem p14_ok (X : Ctx) (ro : RtOk P R) (hE : ∀ xs w, (callFunc f xs).run P w = ((Go.Extern.ReflectliteValue.set xs).run P w).andThen fun v w' => .ok (.value v) w')
    {args : List AV} {v : AV} (e : p14 R G args h = some (v, h')) {cargs : Array Value} (hL : LRel P G M args cargs) (g : Good P G T M h w) (cv : Cov T W h') : OpRes X P G T W M w v h' (callFunc f cargs) := by
  unfold p14 at e
  split at e
  · rename_i t n off fl u m o fl2
    split at e
    · rename_i hc
      obtain ⟨rfl, hfl, hf2⟩ := hc
      split at e
      · rename_i i hi
        split at e
        · rename_i v1 h1 hl
          split at e
          · rename_i h2 hst
            simp only [Option.some.injEq, Prod.mk.injEq] at e
            obtain ⟨rfl, rfl⟩ := e
            obtain ⟨a, b, rfl, ha, hb⟩ := two_args hL
            obtain ⟨b1, hb1, rfl⟩ := rval_inv ha
            obtain ⟨b2, hb2, rfl⟩ := rval_inv hb
            have hs := ro.size t i hi
            have hag := ro.agg t i hi
            have hne : fl ≠ 0 := by rintro rfl; simp at hfl
            rw [← hag] at hl
            have cv1 : Cov T W h1 := by
              have hst' := hst
              unfold storeA at hst'
              split at hst'
              · split at hst'
                · cases hst'; exact cv.of_grow ((Grow.wr _ _).trans (Grow.put _ _ _))
                · cases hst'
              · cases hst'
            obtain ⟨c, hc, hv, g'⟩ := loadA_ok g hs hb2 hl cv1
            obtain ⟨w', k1, k2, k3⟩ := storeA_ok g' hs hb1 hv hst cv
            refine ext_ok X (e := Go.Extern.ReflectliteValue.set) hE ⟨.tuple #[], w', M, ?_, k2, k3, LRel.nil.tup⟩
            have hif : (fl.toNat / Go.Extern.ReflectliteValue.flagAddr % 2 == 0) = false := by
              simp only [Go.Extern.ReflectliteValue.flagAddr, hfl]; rfl
            rw [set_eq]
            simp only [Sem.run_bind, run_parts hne (ro.pack t i hi), run_parts (show fl2 ≠ 0 by omega) (ro.pack t i hi), Result.andThen_ok, hif, Bool.false_eq_true, if_false, hc, run_direct, if_true, k1, Sem.run_pure]
          · cases e
        · cases e
      · cases e
    · cases e
  · cases e

theorem p15_ok (X : Ctx) (ro : RtOk P R) (hE : ∀ xs w, (callFunc f xs).run P w = ((Go.Extern.ReflectliteType.typeOf xs).run P w).andThen fun v w' => .ok (.value v) w')
    {args : List AV} {v : AV} (e : p15 R args h = some (v, h')) {cargs : Array Value} (hL : LRel P G M args cargs) (g : Good P G T M h w) : OpRes X P G T W M w v h' (callFunc f cargs) := by
  unfold p15 at e
  split at e
  · simp only [Option.some.injEq, Prod.mk.injEq] at e
    obtain ⟨rfl, rfl⟩ := e
    obtain ⟨a, rfl, ha⟩ := one_arg hL
    cases ha
    exact ext_ok X (e := Go.Extern.ReflectliteType.typeOf) hE (.pure g (c := .nilIface) rfl .nilIface)
  · rename_i t x
    split at e
    · simp only [Option.some.injEq, Prod.mk.injEq] at e
      obtain ⟨rfl, rfl⟩ := e
      obtain ⟨a, rfl, ha⟩ := one_arg hL
      cases ha with | @iface _ _ c hc =>
      exact ext_ok X (e := Go.Extern.ReflectliteType.typeOf) hE (.pure g (c := .iface R.rtype (.agg #[typeHandle P t])) (ro.toType t w) (.iface (LRel.cons .hdl .nil).agg))
    · cases e
  · cases e

theorem abi_method_eq (F : TypeId → Sem Value) (v : Value) : Go.Extern.ReflectliteType.abiMethod F #[v] = (do let t ← ofHandle v; noPack "a method of abi.Type" t; F t) := rfl

theorem p16_ok (X : Ctx) (ro : RtOk P R) (hE : ∀ xs w, (callFunc f xs).run P w = ((Go.Extern.ReflectliteType.abiMethod (fun t => do Pure.pure (.int .u8 (← kind t))) xs).run P w).andThen fun v w' => .ok (.value v) w')
    {args : List AV} {v : AV} (e : p16 R args h = some (v, h')) {cargs : Array Value} (hL : LRel P G M args cargs) (g : Good P G T M h w) : OpRes X P G T W M w v h' (callFunc f cargs) := by
  unfold p16 at e
  split at e
  · rename_i t
    split at e
    · rename_i i hi
      simp only [Option.some.injEq, Prod.mk.injEq] at e
      obtain ⟨rfl, rfl⟩ := e
      obtain ⟨a, rfl, ha⟩ := one_arg hL
      cases hdl_inv ha
      refine ext_ok X (e := Go.Extern.ReflectliteType.abiMethod (fun t => do Pure.pure (.int .u8 (← kind t)))) hE (.pure g (c := .int .u8 i.kind) ?_ .int)
      rw [abi_method_eq]
      simp only [Sem.run_bind, run_ofHandle, Result.andThen_ok, run_noPack (ro.pack t i hi), run_kind (ro.kind t i hi), Sem.run_pure]
    · cases e
  · cases e

theorem rt_method_eq (F : TypeId → Sem Value) (t : Nat) (hp : P.packed t = false) (w : World) : (Go.Extern.ReflectliteType.method F #[.agg #[typeHandle P t]]).run P w = (F t).run P w := by
  show Sem.run P (do let t ← (do let t ← ofHandle (typeHandle P t); noPack _ t; Pure.pure t); F t) w = _
  simp only [Sem.run_bind, run_ofHandle, Result.andThen_ok, run_noPack hp, Sem.run_pure]

theorem p17_ok (X : Ctx) (ro : RtOk P R) (hE : ∀ xs w, (callFunc f xs).run P w = ((Go.Extern.ReflectliteType.method Go.Extern.ReflectliteType.elem xs).run P w).andThen fun v w' => .ok (.value v) w')
    {args : List AV} {v : AV} (e : p17 R args h = some (v, h')) {cargs : Array Value} (hL : LRel P G M args cargs) (g : Good P G T M h w) : OpRes X P G T W M w v h' (callFunc f cargs) := by
  unfold p17 at e
  split at e
  · rename_i t
    split at e
    · rename_i i hi
      split at e
      · rename_i el hel
        simp only [Option.some.injEq, Prod.mk.injEq] at e
        obtain ⟨rfl, rfl⟩ := e
        obtain ⟨a, rfl, ha⟩ := one_arg hL
        obtain ⟨b, rfl, hb⟩ := agg1_inv ha
        cases hdl_inv hb
        refine ext_ok X (e := Go.Extern.ReflectliteType.method Go.Extern.ReflectliteType.elem) hE (.pure g (c := .iface R.rtype (.agg #[typeHandle P el])) ?_ (.iface (LRel.cons .hdl .nil).agg))
        rw [rt_method_eq _ t (ro.pack t i hi)]
        simp only [Go.Extern.ReflectliteType.elem, Sem.run_bind, run_elem (ro.elem t i el hi hel).1, Result.andThen_ok, ro.toType]
      · cases e
    · cases e
  · cases e

theorem p18_ok (X : Ctx) (ro : RtOk P R) (hE : ∀ xs w, (callFunc f xs).run P w = ((Go.Extern.ReflectliteType.method (fun t => do noPackHeld "Comparable" t; Pure.pure (.bool (← typeInfo t).comparable)) xs).run P w).andThen fun v w' => .ok (.value v) w')
    {args : List AV} {v : AV} (e : p18 R args h = some (v, h')) {cargs : Array Value} (hL : LRel P G M args cargs) (g : Good P G T M h w) : OpRes X P G T W M w v h' (callFunc f cargs) := by
  unfold p18 at e
  split at e
  · rename_i t
    split at e
    · rename_i i hi
      simp only [Option.some.injEq, Prod.mk.injEq] at e
      obtain ⟨rfl, rfl⟩ := e
      obtain ⟨a, rfl, ha⟩ := one_arg hL
      obtain ⟨b, rfl, hb⟩ := agg1_inv ha
      cases hdl_inv hb
      refine ext_ok X (e := Go.Extern.ReflectliteType.method (fun t => do noPackHeld "Comparable" t; Pure.pure (.bool (← typeInfo t).comparable))) hE (.pure g (c := .bool i.cmp) ?_ .bool)
      rw [rt_method_eq _ t (ro.pack t i hi)]
      have hc := ro.cmp t i hi
      simp only [Option.map_eq_some_iff] at hc
      obtain ⟨j, hj, hc⟩ := hc
      simp only [Sem.run_bind, run_noPackHeld (ro.held t i hi), Result.andThen_ok, run_typeInfo hj, Sem.run_pure, hc]
    · cases e
  · cases e

theorem run_asg {t u : Nat} (h : asgP P u t = true) (w : World) : (directlyAssignable u t).run P w = .ok (u == t) w ∧ (implements u t).run P w = .ok false w ∧ P.methodsOfAPack P.depth t = false ∧ P.methodsOfAPack P.depth u = false := by
  unfold asgP at h
  simp only [Bool.and_eq_true, Bool.not_eq_true'] at h
  obtain ⟨⟨h1, h2⟩, h3⟩ := h
  split at h3
  · rename_i a i b j n m hu ht hn hm
    simp only [Bool.and_eq_true, Bool.or_eq_true, bne_iff_ne, ne_eq] at h3
    obtain ⟨⟨h4, h5⟩, h6⟩ := h3
    refine ⟨?_, ?_, h1, h2⟩
    · unfold directlyAssignable
      by_cases he : u = t
      · subst he; simp only [beq_self_eq_true, if_true]; rfl
      · have he' : (u == t) = false := by simpa using he
        simp only [he', Bool.false_eq_true, if_false, Sem.run_bind, run_named hn, run_named hm, Result.andThen_ok]
        cases n with
        | true =>
          cases m with
          | true => rfl
          | false =>
            have hab : ¬ a = b := by simpa using h6
            simp only [Bool.true_and, Bool.false_eq_true, if_false, Sem.run_bind, run_under hu, run_under ht, Result.andThen_ok]
            cases hd : i.desc <;> simp [hd] at h4 <;> simp [hab, Sem.run_pure]
        | false =>
          have hab : ¬ a = b := by simpa using h6
          simp only [Bool.false_and, Bool.false_eq_true, if_false, Sem.run_bind, run_under hu, run_under ht, Result.andThen_ok]
          cases hd : i.desc <;> simp [hd] at h4 <;> simp [hab, Sem.run_pure]
    · simp only [implements, Sem.run_bind, run_noPackMethods h1, run_noPackMethods h2, Result.andThen_ok, run_under hu, run_under ht]
      cases hd : i.desc <;> simp [hd] at h4 <;> rfl
  · cases h3

theorem run_implSelf {t : Nat} (h : asgIP P t = true) (w : World) : (implements t t).run P w = .ok false w := by
  unfold asgIP at h
  simp only [Bool.and_eq_true, Bool.not_eq_true'] at h
  obtain ⟨h1, h3⟩ := h
  split at h3
  · rename_i a i hu
    simp only [implements, Sem.run_bind, run_noPackMethods h1, Result.andThen_ok, run_under hu]
    cases hd : i.desc <;> simp [hd] at h3 <;> rfl
  · cases h3

theorem rel_def (s : String) (F : TypeId → TypeId → Sem Bool) (a b : Value) (k : Nat) : Go.Extern.ReflectliteType.relation s F #[.agg #[a], .iface k (.agg #[b])] =
    (do Pure.pure (Value.bool (← F (← (do let t ← ofHandle b; noPack "a Type asked or handed on" t; Pure.pure t)) (← (do let t ← ofHandle a; noPack "a Type asked or handed on" t; Pure.pure t))))) := rfl

theorem rel_eq (s : String) (F : TypeId → TypeId → Sem Bool) (t u k : Nat) (ht : P.packed t = false) (hu : P.packed u = false) (w : World) :
    (Go.Extern.ReflectliteType.relation s F #[.agg #[typeHandle P t], .iface k (.agg #[typeHandle P u])]).run P w = ((F u t).run P w).andThen fun b w' => .ok (.bool b) w' := by
  rw [rel_def]
  simp only [Sem.run_bind, run_ofHandle, Result.andThen_ok, run_noPack ht, run_noPack hu, Sem.run_pure]

theorem p19_ok (X : Ctx) (ro : RtOk P R) (hE : ∀ xs w, (callFunc f xs).run P w = ((Go.Extern.ReflectliteType.relation "AssignableTo" Go.Extern.ReflectliteType.assignableTo xs).run P w).andThen fun v w' => .ok (.value v) w')
    {args : List AV} {v : AV} (e : p19 R args h = some (v, h')) {cargs : Array Value} (hL : LRel P G M args cargs) (g : Good P G T M h w) : OpRes X P G T W M w v h' (callFunc f cargs) := by
  unfold p19 at e
  split at e
  · rename_i t k u
    split at e
    · rename_i hc
      simp only [Bool.and_eq_true] at hc
      obtain ⟨hct, hcu⟩ := hc
      simp only [Option.some.injEq, Prod.mk.injEq] at e
      obtain ⟨rfl, rfl⟩ := e
      obtain ⟨a, b, rfl, ha, hb⟩ := two_args hL
      obtain ⟨a', rfl, ha'⟩ := agg1_inv ha
      cases hdl_inv ha'
      cases hb with | @iface _ _ c hc =>
      obtain ⟨c', rfl, hc'⟩ := agg1_inv hc
      cases hdl_inv hc'
      refine ext_ok X (e := Go.Extern.ReflectliteType.relation "AssignableTo" Go.Extern.ReflectliteType.assignableTo) hE (.pure g (c := .bool (t == u)) ?_ .bool)
      rw [rel_eq _ _ t u k (ro.asgS t hct) (ro.asgS u hcu)]
      unfold Go.Extern.ReflectliteType.assignableTo
      by_cases htu : t = u
      · subst htu
        simp only [bne_self_eq_false, Bool.false_eq_true, if_false, Sem.run_bind, Sem.run_pure, Result.andThen_ok, run_direct, beq_self_eq_true, run_implSelf (ro.asgI t hct), Bool.true_or]
      · obtain ⟨h1, h2, h3, h4⟩ := run_asg (P := P) (ro.asg t u hct hcu htu) w
        have e1 : (u != t) = true := by simpa using Ne.symm htu
        have e2 : (u == t) = false := by simpa using Ne.symm htu
        have e3 : (t == u) = false := by simpa using htu
        simp only [e1, if_true, Sem.run_bind, run_noPackMethods h3, run_noPackMethods h4, Result.andThen_ok, h1, e2, e3, h2, Sem.run_pure]
        rfl
    · cases e
  · cases e

theorem p20_ok (X : Ctx) (ro : RtOk P R) (hE : ∀ xs w, (callFunc f xs).run P w = ((Go.Extern.ReflectliteType.relation "Implements" Go.Extern.ReflectliteType.implements_ xs).run P w).andThen fun v w' => .ok (.value v) w')
    {args : List AV} {v : AV} (e : p20 R args h = some (v, h')) {cargs : Array Value} (hL : LRel P G M args cargs) (g : Good P G T M h w) : OpRes X P G T W M w v h' (callFunc f cargs) := by
  unfold p20 at e
  split at e
  · rename_i t k u
    split at e
    · rename_i b hb
      simp only [Option.some.injEq, Prod.mk.injEq] at e
      obtain ⟨rfl, rfl⟩ := e
      obtain ⟨a, b2, rfl, ha, hb2⟩ := two_args hL
      obtain ⟨a', rfl, ha'⟩ := agg1_inv ha
      cases hdl_inv ha'
      cases hb2 with | @iface _ _ c hc =>
      obtain ⟨c', rfl, hc'⟩ := agg1_inv hc
      cases hdl_inv hc'
      obtain ⟨h1, h2, h3⟩ := ro.impl t u b hb
      unfold implP at h1
      split at h1
      · cases h1
      · rename_i hno
        simp only [Bool.or_eq_true, not_or, Bool.not_eq_true] at hno
        obtain ⟨⟨q1, q2⟩, q3⟩ := hno
        refine ext_ok X (e := Go.Extern.ReflectliteType.relation "Implements" Go.Extern.ReflectliteType.implements_) hE (.pure g (c := .bool b) ?_ .bool)
        rw [rel_eq _ _ t u k h3 q3]
        split at h1
        · rename_i a1 i a2 j kk hu ht hk
          unfold Go.Extern.ReflectliteType.implements_
          have e20 : ((20 : Nat) != 20) = false := rfl
          simp only [Sem.run_bind, run_kind h2, Result.andThen_ok, e20, Bool.false_eq_true, if_false, run_noPackMethods q1, run_noPack q3, Sem.run_pure, implements, run_noPackMethods q2, run_under hu, run_under ht]
          split at h1
          · cases h1
          · rename_i want hd hd2
            simp only [Option.some.injEq] at h1
            subst h1
            simp only [hd]
            cases hdd : j.desc <;> first | (exact absurd hdd (hd2 _ _)) | (simp only [Sem.run_bind, run_typeInfo hk, Result.andThen_ok, Sem.run_pure, missing_isNone])
          · cases h1
        · cases h1
    · cases e
  · cases e

theorem fst_eq : ∀ c, c < 256 → fstT c = Lib.firstT c := by
  have : (List.range 256).all (fun c => fstT c == (Lib.firstT c : Int)) = true := by decide +kernel
  intro c hc
  have := List.all_eq_true.1 this c (List.mem_range.2 hc)
  exact beq_iff_eq.1 this
theorem accA_eq : ∀ c, c < 16 → accA c = Lib.accLo c ∧ accB c = Lib.accHi c := by
  have : (List.range 16).all (fun c => accA c == (Lib.accLo c : Int) && accB c == (Lib.accHi c : Int)) = true := by decide +kernel
  intro c hc
  have := List.all_eq_true.1 this c (List.mem_range.2 hc)
  simp only [Bool.and_eq_true, beq_iff_eq] at this
  exact this

theorem p6_ok (X : Ctx) (hf : R.fst < P.globals.size) (ha : R.acc < P.globals.size) (hE : ∀ xs w, (callFunc f xs).run P w = .ok (.enter f xs) w)
    (hC : ∀ (s : ByteArray) (w : World), Lib.Utf8Tabs R.fst R.acc w →
      Calls P f #[.string s] w fun e w' => e = .returned (.tuple #[.int .i32 (Lib.decodeGo s).1, .int .i64 (Lib.decodeGo s).2]) ∧ Go.RowKit.Below w.heap.size w w')
    {args : List AV} {v : AV} (e : p6 R args h = some (v, h')) {cargs : Array Value} (hL : LRel P G M args cargs) (g : Good P G T M h w) (cv : Cov T W h') : OpRes X P G T W M w v h' (callFunc f cargs) := by
  unfold p6 at e
  split at e
  · rename_i s
    split at e
    · rename_i hg1 hg2
      simp only [Option.some.injEq, Prod.mk.injEq] at e
      obtain ⟨rfl, rfl⟩ := e
      obtain ⟨a, rfl, hs⟩ := one_arg hL
      obtain ⟨s', rfl, hz⟩ := str_inv hs
      have cv1 : Cov T W (h.rd R.fst) := cv.of_grow (Grow.rd _ _)
      obtain ⟨ar1, e1, z1, k1, l1⟩ := laid_at g hf cv1.of_rd hg1
      obtain ⟨ar2, e2, z2, k2, l2⟩ := laid_at g ha cv.of_rd hg2
      have htab : Lib.Utf8Tabs R.fst R.acc w := by
        refine ⟨fun c hc => ?_, fun i hi => ?_⟩
        · have := l1 c hc
          rw [fst_eq c hc] at this
          simp [World.cell?, k1, this]
        · have := l2 i hi
          rw [(accA_eq i hi).1, (accA_eq i hi).2] at this
          simp [World.cell?, k2, this.1, this.2]
      have hcall := hC s' w htab
      refine prim_below X ((g.rd _).rd _) (hE _) hcall ?_
      have hval : ∀ n m : Nat, VRel P G M (.tup [.int .i32 n, .int .i64 m]) (.tuple #[.int .i32 n, .int .i64 m]) := fun n m => (LRel.cons .int (LRel.cons .int .nil)).tup
      unfold Lib.decodeGo
      cases s with
      | nil =>
        have : s'.size = 0 := by rw [size_list, hz]; rfl
        simp only [this, if_true]
        exact hval 65533 0
      | cons c s =>
        have : ¬ s'.size = 0 := by rw [size_list, hz]; simp
        simp only [this, if_false]
        rw [decode_eq, hz]
        exact hval _ _
    · cases e
  · cases e

theorem p7_ok (X : Ctx) (hE : ∀ xs w, (callFunc f xs).run P w = .ok (.enter f xs) w)
    (hU : ∀ (b o : Nat) (w : World), w.cell? ⟨b, o, none⟩ = some (.pointer (some ⟨b, o, none⟩)) → Calls P f #[.pointer (some ⟨b, o, none⟩)] w fun e w' => e = .returned (.tuple #[]) ∧ w' = w)
    (hF : ∀ (b o : Nat) (ty : TypeId) (arr : Array Value) (fz : Nat × Nat) (w : World), w.heap[b]? = some (.cells arr ty fz) → o < arr.size → R.lies.contains (ty, o, arr.size) = true → w.cell? ⟨b, o, none⟩ = some (.pointer none) → w.frozen? ⟨b, o, none⟩ = false →
      Calls P f #[.pointer (some ⟨b, o, none⟩)] w fun e w' => e = .returned (.tuple #[]) ∧ w' = w.setCell ⟨b, o, none⟩ (.pointer (some ⟨b, o, none⟩)))
    {args : List AV} {v : AV} (e : p7 R G args h = some (v, h')) {cargs : Array Value} (hL : LRel P G M args cargs) (g : Good P G T M h w) (cv : Cov T W h') : OpRes X P G T W M w v h' (callFunc f cargs) := by
  unfold p7 at e
  split at e
  · rename_i n off
    obtain ⟨a, rfl, ha⟩ := one_arg hL
    cases ha with | @ptr _ _ b hb =>
    split at e
    · rename_i hty
      have hty' : ∃ ty cs, h.get n = some (.cells ty cs) ∧ R.lies.contains (ty, off, cs.length) = true := by
        unfold liesA at hty
        split at hty
        · exact ⟨_, _, by assumption, hty⟩
        · cases hty
      obtain ⟨ty, cs, hg, hlies⟩ := hty'
      unfold p7b at e
      split at e
      · rename_i h1 hl
        simp only [Option.map_eq_some_iff, Prod.mk.injEq] at e
        obtain ⟨h2, hst, rfl, rfl⟩ := e
        -- the cell is nil: it is written
        simp only [loadA, hg] at hl
        split at hl
        · rename_i u hv
          simp only [Option.some.injEq, Prod.mk.injEq] at hl
          obtain ⟨rfl, rfl⟩ := hl
          simp only [storeA, AV.cells?, Heap.get_rd, hg] at hst
          split at hst
          · rename_i hcond
            obtain ⟨q1, q2, q3, q4⟩ := hcond
            simp only [Option.some.injEq] at hst
            subst hst
            have cvw : Cov T W ((h.rd n).wr n) := cv.of_grow (Grow.put _ _ _)
            obtain ⟨hTn, hWn⟩ := cvw.of_wr
            obtain ⟨b', hb', arr, el, fz, k1, k2, k3, k4⟩ := g.boxes n _ hTn hg
            rw [hb] at hb'; cases hb'
            have hel := el.2
            have hoff : off < cs.length := by
              simp only [cellAt, Bool.false_eq_true, if_false] at hv
              exact (List.getElem?_eq_some_iff.1 hv).1
            have hcell : w.cell? ⟨b, off, none⟩ = some (.pointer none) := by
              simp only [cellAt, Bool.false_eq_true, if_false] at hv
              have h4 := k4 off hoff
              rw [List.getD_eq_getElem?_getD, hv, Option.getD_some] at h4
              have hc := cells_get k1 (o := off) (by omega)
              rw [hc]
              generalize arr.getD off undef = z at h4
              cases h4
              rfl
            obtain ⟨w', rfl, hs⟩ := calls_steps (hF b off ty arr fz w (by rw [k1, hel]) (by omega) (by rw [k3]; exact hlies) hcell (k2 off)) X
            have hob := OneBlock.setCell w b off (.pointer (some ⟨b, off, none⟩))
            refine ⟨_, _, M, .enter (hE _ _) hs, ?_, Stp.put hWn hb hob, LRel.nil.tup⟩
            refine Good.put ((g.rd n).wr n) hb (by simpa using hg) (fun i => g.mok.boxpin n b i q4 hb) hob _ ?_ (by simp)
            have hnew := setCell_cells (w := w) (o := off) k1 (.pointer (some ⟨b, off, none⟩))
            refine ⟨_, el, fz, hnew, fun o => ?_, by simp [putCells, k3], fun i hi => ?_⟩
            · have := k2 o
              simp only [World.frozen?, k1, hnew] at this ⊢
              exact this
            · simp only [putCells, List.length_set] at hi ⊢
              exact (LRel.set (⟨k3, k4⟩ : LRel P G M cs arr) off (.ptr hb)).2 i (by simpa using hi)
          · cases hst
        · cases hl
      · rename_i m o h1 hl
        split at e
        · rename_i hmo
          obtain ⟨rfl, rfl⟩ := hmo
          simp only [Option.some.injEq, Prod.mk.injEq] at e
          obtain ⟨rfl, rfl⟩ := e
          simp only [loadA, hg] at hl
          split at hl
          · rename_i u hv
            simp only [Option.some.injEq, Prod.mk.injEq] at hl
            obtain ⟨rfl, rfl⟩ := hl
            obtain ⟨b', hb', arr, el, fz, k1, k2, k3, k4⟩ := g.boxes m _ cv.of_rd hg
            rw [hb] at hb'; cases hb'
            simp only [cellAt, Bool.false_eq_true, if_false] at hv
            have hoff := (List.getElem?_eq_some_iff.1 hv).1
            have h4 := k4 o hoff
            rw [List.getD_eq_getElem?_getD, hv, Option.getD_some] at h4
            have hc := cells_get k1 (o := o) (by omega)
            have hcell : w.cell? ⟨b, o, none⟩ = some (.pointer (some ⟨b, o, none⟩)) := by
              rw [hc]
              generalize arr.getD o undef = z at h4
              cases h4 with | ptr hb2 =>
              rw [hb] at hb2; cases hb2; rfl
            exact prim_same X (g.rd m) (hE _) (hU b o w hcell) LRel.nil.tup
          · cases hl
        · cases e
      · cases e
    · cases e
  · cases e
end
end Am
end
section
namespace Am
open Go Go.Extern.Rtype

theorem loadA_fr {agg : Bool} {sz : Nat} {h h' : Heap} {n off : Nat} {v : AV} (e : loadA agg sz h n off = some (v, h')) : Fr h h' := by
  unfold loadA at e
  split at e
  · split at e
    · cases e; exact Fr.rd _ _
    · cases e
  · cases e

theorem storeA_fr {G sz : Nat} {h h' : Heap} {n off : Nat} {v : AV} (e : storeA G sz h n off v = some h') : Fr h h' := by
  unfold storeA at e
  split at e
  · rename_i hg
    split at e
    · cases e; exact Fr.wrPut _ (Heap.get_lt hg) _
    · cases e
  · cases e

theorem primA_fr (R : RTab) (G : Nat) (p : Nat) {args : List AV} {h h' : Heap} {v : AV} (e : primA R G p args h = some (v, h')) : Fr h h' := by
  unfold primA at e
  split at e
  · unfold p0 at e; split at e <;> (try cases e); split at e <;> (try cases e); split at e <;> cases e; exact Fr.rd _ _
  · unfold p2 at e; split at e <;> (try cases e); split at e <;> (try cases e); split at e <;> cases e; exact Fr.rd _ _
  · unfold p3 at e; split at e <;> (try cases e); split at e <;> (try cases e); split at e <;> cases e; exact Fr.refl _
  · unfold p4 at e; split at e <;> cases e; exact Fr.refl _
  · unfold p6 at e; split at e <;> (try cases e); split at e <;> cases e; exact (Fr.rd _ _).trans (Fr.rd _ _)
  · unfold p7 at e; split at e <;> (try cases e)
    split at e <;> (try cases e)
    unfold p7b at e
    split at e
    · rename_i hl
      simp only [Option.map_eq_some_iff, Prod.mk.injEq] at e
      obtain ⟨h2, hst, rfl, rfl⟩ := e
      exact (loadA_fr hl).trans (storeA_fr hst)
    · rename_i hl
      split at e <;> cases e
      exact loadA_fr hl
    · cases e
  · unfold p10 at e; split at e <;> (try cases e); split at e <;> cases e; exact Fr.push _ _
  · unfold p11 at e; split at e <;> (try cases e); split at e <;> cases e; exact Fr.refl _
  · unfold p12 at e; split at e <;> (try cases e); split at e <;> (try cases e); split at e <;> (try cases e); split at e <;> (try cases e) <;> rename_i hl <;> exact loadA_fr hl
  · unfold p13 at e; split at e <;> (try cases e); split at e <;> (try cases e); split at e <;> (try cases e); split at e <;> (try cases e); split at e <;> (try cases e); split at e <;> (try cases e); rename_i hl; exact loadA_fr hl
  · unfold p14 at e; split at e <;> (try cases e); split at e <;> (try cases e); split at e <;> (try cases e); split at e <;> (try cases e); rename_i hl; split at e <;> (try cases e); rename_i hst; exact (loadA_fr hl).trans (storeA_fr hst)
  · unfold p15 at e; split at e <;> (try cases e); · exact Fr.refl _
    split at e <;> cases e; exact Fr.refl _
  · unfold p16 at e; split at e <;> (try cases e); split at e <;> cases e; exact Fr.refl _
  · unfold p17 at e; split at e <;> (try cases e); split at e <;> (try cases e); split at e <;> cases e; exact Fr.refl _
  · unfold p18 at e; split at e <;> (try cases e); split at e <;> cases e; exact Fr.refl _
  · unfold p19 at e; split at e <;> (try cases e); split at e <;> cases e; exact Fr.refl _
  · unfold p20 at e; split at e <;> (try cases e); split at e <;> cases e; exact Fr.refl _
  · cases e

def Enters (P : Program) (f : Nat) : Prop := ∀ xs w, (callFunc f xs).run P w = .ok (.enter f xs) w
def Extern (P : Program) (f : Nat) (e : Array Value → Sem Value) : Prop := ∀ xs w, (callFunc f xs).run P w = ((e xs).run P w).andThen fun v w' => .ok (.value v) w'

inductive PrimFact (P : Program) (R : RTab) (f : Nat) : Nat → Prop where
  | p0 (hE : Enters P f) (hmx : R.mx < P.globals.size)
      (hC : ∀ (s sub : ByteArray) (m : Int) (w : World), s.size < 4294967281 → w.cell? ⟨R.mx, 0, none⟩ = some (.int .i64 m) →
        Calls P f #[.string s, .string sub] w fun e w' => e = .returned (.int .i64 (Lib.index s.data.toList sub.data.toList)) ∧ w' = w) : PrimFact P R f 0
  | p2 (hE : Enters P f) (hmx : R.mx < P.globals.size) (ty : TypeId)
      (hC : ∀ (s sep : ByteArray) (m : Int) (w : World), s.size < 4294967281 → w.cell? ⟨R.mx, 0, none⟩ = some (.int .i64 m) → 1 ≤ sep.size →
        Calls P f #[.string s, .string sep] w fun e w' => e = .returned (.slice (some ⟨w.heap.size, 0, none⟩) (Lib.countB s sep + 1) (Lib.countB s sep + 1)) ∧
          w' = w.alloc (.cells ((Lib.splitB sep 0 (Lib.countB s sep) s).map Value.string).toArray ty)) : PrimFact P R f 2
  | p3 (hE : Enters P f)
      (hN : ∀ (a : Option Addr) (c : Nat) (sep : ByteArray) (w : World), Calls P f #[.slice a 0 c, .string sep] w fun e w' => e = .returned (.string ⟨#[]⟩) ∧ w' = w)
      (hC : ∀ (bk o c : Nat) (xs : List ByteArray) (sep : ByteArray) (w : World), (∀ (j : Nat) x, xs[j]? = some x → w.cell? ⟨bk, o + j, none⟩ = some (.string x)) → bk < w.heap.size → xs.length ≤ 140737488355328 → xs.length ≤ c →
        (Lib.join (xs.map (·.data.toList)) sep.data.toList).length ≤ 140737488355328 →
        Calls P f #[.slice (some ⟨bk, o, none⟩) xs.length c, .string sep] w fun e w' => e = .returned (.string ⟨(Lib.join (xs.map (·.data.toList)) sep.data.toList).toArray⟩) ∧ Go.RowKit.Below w.heap.size w w') : PrimFact P R f 3
  | p4 (hE : Enters P f)
      (hC : ∀ (s : ByteArray) (c : Int) (w : World), Calls P f #[.string s, .int .u8 c] w fun e w' => e = .returned (.int .i64 (Lib.indexByte s.data.toList c.toNat.toUInt8)) ∧ w' = w) : PrimFact P R f 4
  | p6 (hE : Enters P f) (hf : R.fst < P.globals.size) (ha : R.acc < P.globals.size)
      (hC : ∀ (s : ByteArray) (w : World), Lib.Utf8Tabs R.fst R.acc w →
        Calls P f #[.string s] w fun e w' => e = .returned (.tuple #[.int .i32 (Lib.decodeGo s).1, .int .i64 (Lib.decodeGo s).2]) ∧ Go.RowKit.Below w.heap.size w w') : PrimFact P R f 6
  | p7 (hE : Enters P f)
      (hU : ∀ (b o : Nat) (w : World), w.cell? ⟨b, o, none⟩ = some (.pointer (some ⟨b, o, none⟩)) → Calls P f #[.pointer (some ⟨b, o, none⟩)] w fun e w' => e = .returned (.tuple #[]) ∧ w' = w)
      (hF : ∀ (b o : Nat) (ty : TypeId) (arr : Array Value) (fz : Nat × Nat) (w : World), w.heap[b]? = some (.cells arr ty fz) → o < arr.size → R.lies.contains (ty, o, arr.size) = true → w.cell? ⟨b, o, none⟩ = some (.pointer none) → w.frozen? ⟨b, o, none⟩ = false →
        Calls P f #[.pointer (some ⟨b, o, none⟩)] w fun e w' => e = .returned (.tuple #[]) ∧ w' = w.setCell ⟨b, o, none⟩ (.pointer (some ⟨b, o, none⟩))) : PrimFact P R f 7
  | p10 (hE : Extern P f fun xs => Go.Extern.ReflectliteValue.unpack (xs.getD 0 (.tuple #[]))) : PrimFact P R f 10
  | p11 {z : Sem Value} (hE : Extern P f (Go.Extern.ReflectliteValue.methodAny z (fun t _ _ _ => Go.Extern.ReflectliteType.toType t))) : PrimFact P R f 11
  | p12 {z : Sem Value} (hE : Extern P f (Go.Extern.ReflectliteValue.method z Go.Extern.ReflectliteValue.isNil)) : PrimFact P R f 12
  | p13 {z : Sem Value} (hE : Extern P f (Go.Extern.ReflectliteValue.method z Go.Extern.ReflectliteValue.elem)) : PrimFact P R f 13
  | p14 (hE : Extern P f Go.Extern.ReflectliteValue.set) : PrimFact P R f 14
  | p15 (hE : Extern P f Go.Extern.ReflectliteType.typeOf) : PrimFact P R f 15
  | p16 (hE : Extern P f (Go.Extern.ReflectliteType.abiMethod (fun t => do Pure.pure (.int .u8 (← kind t))))) : PrimFact P R f 16
  | p17 (hE : Extern P f (Go.Extern.ReflectliteType.method Go.Extern.ReflectliteType.elem)) : PrimFact P R f 17
  | p18 (hE : Extern P f (Go.Extern.ReflectliteType.method (fun t => do noPackHeld "Comparable" t; Pure.pure (.bool (← typeInfo t).comparable)))) : PrimFact P R f 18
  | p19 (hE : Extern P f (Go.Extern.ReflectliteType.relation "AssignableTo" Go.Extern.ReflectliteType.assignableTo)) : PrimFact P R f 19
  | p20 (hE : Extern P f (Go.Extern.ReflectliteType.relation "Implements" Go.Extern.ReflectliteType.implements_)) : PrimFact P R f 20

theorem prim_ok {P : Program} {G : Nat} {T W : Loc → Prop} {M : Mp} {h h' : Heap} {w : World} {R : RTab} {f p : Nat} (X : Ctx) (ro : RtOk P R) (h1 : ∀ t i, R.get t = some i → i.kind = 22 → i.agg = false ∧ i.size = 1)
    (hp : PrimFact P R f p) {args : List AV} {v : AV} (e : primA R G p args h = some (v, h')) {cargs : Array Value} (hL : LRel P G M args cargs) (g : Good P G T M h w) (cv : Cov T W h') : OpRes X P G T W M w v h' (callFunc f cargs) := by
  cases hp with
  | p0 hE hmx hC => exact prim0_ok X hmx hE hC e hL g cv
  | p2 hE hmx ty hC => exact prim2_ok X hmx hE ty hC e hL g cv
  | p3 hE hN hC => exact prim3_ok X hE hN hC e hL g
  | p4 hE hC => exact prim4_ok X hE hC e hL g
  | p6 hE hf ha hC => exact p6_ok X hf ha hE hC e hL g cv
  | p7 hE hU hF => exact p7_ok X hE hU hF e hL g cv
  | p10 hE => exact p10_ok X ro hE e hL g
  | p11 hE => exact p11_ok X ro hE e hL g
  | p12 hE => exact p12_ok X ro hE h1 e hL g cv
  | p13 hE => exact p13_ok X ro hE h1 e hL g cv
  | p14 hE => exact p14_ok X ro hE e hL g cv
  | p15 hE => exact p15_ok X ro hE e hL g
  | p16 hE => exact p16_ok X ro hE e hL g
  | p17 hE => exact p17_ok X ro hE e hL g
  | p18 hE => exact p18_ok X ro hE e hL g
  | p19 hE => exact p19_ok X ro hE e hL g
  | p20 hE => exact p20_ok X ro hE e hL g

/-- the code of functions, as a tree -/
inductive CT where
  | none
  | leaf (f : Nat) (c : AFun)
  | node (m : Nat) (l r : CT)
def CT.get : CT → Nat → Option AFun
  | .none, _ => Option.none
  | .leaf f c, x => if x = f then some c else Option.none
  | .node m l r, x => if x < m then l.get x else r.get x
def CT.All (p : Nat → AFun → Prop) : CT → Prop
  | .none => True
  | .leaf f c => p f c
  | .node _ l r => l.All p ∧ r.All p
theorem CT.all_get {p : Nat → AFun → Prop} : ∀ {t : CT} {x : Nat} {c : AFun}, t.All p → t.get x = some c → p x c
  | .none, _, _, _, e => by cases e
  | .leaf f c, x, c', h, e => by
    simp only [CT.get] at e
    split at e
    · cases e; rename_i h'; subst h'; exact h
    · cases e
  | .node m l r, x, c', h, e => by
    simp only [CT.get] at e
    split at e
    · exact CT.all_get h.1 e
    · exact CT.all_get h.2 e

def progOf (t : CT) (keep : Nat → Bool) (R : RTab) (G : Nat) : AProg := { codes := t.get, keep := keep, G := G, prims := primA R G }

def CodeFact (P : Program) (cfg : TrCfg) (R : RTab) (f : Nat) (c : AFun) : Prop := trF P cfg f = some c ∧ ∀ p, c = .prim p → PrimFact P R f p

theorem aok {P : Program} {cfg : TrCfg} {R : RTab} {t : CT} {keep : Nat → Bool} {G : Nat} (hgl : P.globals.size ≤ G) (hm : P.follows .mixedOrders = true) (ro : RtOk P R) (h1 : ∀ t i, R.get t = some i → i.kind = 22 → i.agg = false ∧ i.size = 1)
    (hall : t.All (CodeFact P cfg R)) : AOk P cfg (progOf t keep R G) where
  mixed := hm
  gl := hgl
  codes := fun f c e => (CT.all_get hall e).1
  prims := fun f p e args h v h' ev T W M w cargs hL g cv X => prim_ok X ro h1 ((CT.all_get hall e).2 p rfl) ev hL g cv
  pfr := fun p args h v h' e => primA_fr R G p e
end Am
end
section
namespace Am
open Go Go.Extern.Rtype

theorem enters {P : Program} {f : FuncId} {fn : Func} (hf : P.funcs[f]? = some fn) (hname : (fn.name == "runtime.NumGoroutine") = false) (hb : fn.body.isSome = true) : Enters P f := by
  intro xs w
  have h1 : fn.name ≠ "runtime.NumGoroutine" := by simpa using hname
  obtain ⟨c, hc⟩ := Option.isSome_iff_exists.1 hb
  simp [callFunc, hf, h1, hc]

def rtCheckI (P : Program) (t : Nat) (i : RInfo) : Bool :=
  kindP P t == some i.kind && !P.packed t && !P.holdsPacked P.depth t && (P.info? t).map (·.comparable) == some i.cmp &&
  (match i.elem with
    | some e => elemP P t == some e && (match P.underlying t with | some (.pointer e') => e' == e | _ => false)
    | none => true) &&
  isAggT P t == i.agg && sizeT P t == some i.size && (i.kind != 22 || (!i.agg && i.size == 1))
def rtCheck (P : Program) (R : RTab) : Bool :=
  R.info.all (fun x => rtCheckI P x.1 x.2) &&
  R.asg.all (fun t => asgIP P t && !P.packed t && R.asg.all fun u => t == u || asgP P u t) &&
  R.impl.all fun x => implP P x.1.2 x.1.1 == some x.2 && kindP P x.1.2 == some 20 && !P.packed x.1.1

theorem lookup_in {α β : Type} [BEq α] [LawfulBEq α] {k : α} {v : β} : ∀ {l : List (α × β)}, l.lookup k = some v → (k, v) ∈ l
  | [], e => by cases e
  | (a, b) :: l, e => by
    simp only [List.lookup_cons] at e
    split at e
    · rename_i h
      cases e
      rw [eq_of_beq h]
      exact List.mem_cons_self ..
    · exact List.mem_cons_of_mem _ (lookup_in e)

theorem rtOk_of {P : Program} {R : RTab} (h : rtCheck P R = true) (hT : ∀ t w, (Go.Extern.ReflectliteType.toType t).run P w = .ok (.iface R.rtype (.agg #[typeHandle P t])) w) :
    RtOk P R ∧ ∀ t i, R.get t = some i → i.kind = 22 → i.agg = false ∧ i.size = 1 := by
  unfold rtCheck at h
  rw [Bool.and_eq_true, Bool.and_eq_true] at h
  obtain ⟨⟨h1, h2⟩, h3⟩ := h
  have hI : ∀ t i, R.get t = some i → rtCheckI P t i = true := fun t i e => List.all_eq_true.1 h1 (t, i) (lookup_in e)
  have hA : ∀ t, R.asg.contains t = true → asgIP P t = true ∧ P.packed t = false ∧ ∀ u, R.asg.contains u = true → t ≠ u → asgP P u t = true := by
    intro t ht
    have := List.all_eq_true.1 h2 t (List.contains_iff_mem.1 ht)
    simp only [Bool.and_eq_true, Bool.not_eq_true'] at this
    refine ⟨this.1.1, this.1.2, fun u hu hn => ?_⟩
    have := List.all_eq_true.1 this.2 u (List.contains_iff_mem.1 hu)
    simp only [Bool.or_eq_true, beq_iff_eq] at this
    exact this.resolve_left hn
  have hI' : ∀ t i, R.get t = some i → kindP P t = some i.kind ∧ P.packed t = false ∧ P.holdsPacked P.depth t = false ∧ (P.info? t).map (·.comparable) = some i.cmp ∧
      (∀ e, i.elem = some e → elemP P t = some e ∧ P.underlying t = some (.pointer e)) ∧ isAggT P t = i.agg ∧ sizeT P t = some i.size ∧ (i.kind = 22 → i.agg = false ∧ i.size = 1) := by
    intro t i e
    have := hI t i e
    unfold rtCheckI at this
    simp only [Bool.and_eq_true, beq_iff_eq, Bool.not_eq_true', Bool.or_eq_true, bne_iff_ne, ne_eq] at this
    obtain ⟨⟨⟨⟨⟨⟨⟨a1, a2⟩, a3⟩, a4⟩, a5⟩, a6⟩, a7⟩, a8⟩ := this
    refine ⟨a1, a2, a3, a4, fun x hx => ?_, a6, a7, fun hk => ?_⟩
    · rw [hx] at a5
      simp only [Bool.and_eq_true, beq_iff_eq] at a5
      refine ⟨a5.1, ?_⟩
      have a5 := a5.2
      split at a5
      · rename_i e' he
        rw [he, beq_iff_eq.1 a5]
      · cases a5
    · rcases a8 with a8 | a8
      · exact absurd hk a8
      · exact a8
  refine ⟨?_, fun t i e => (hI' t i e).2.2.2.2.2.2.2⟩
  exact {
    kind := fun t i e => (hI' t i e).1
    pack := fun t i e => (hI' t i e).2.1
    held := fun t i e => (hI' t i e).2.2.1
    cmp := fun t i e => (hI' t i e).2.2.2.1
    elem := fun t i x e hx => (hI' t i e).2.2.2.2.1 x hx
    agg := fun t i e => (hI' t i e).2.2.2.2.2.1
    size := fun t i e => (hI' t i e).2.2.2.2.2.2.1
    toType := hT
    asg := fun t u ht hu hn => (hA t ht).2.2 u hu hn
    asgI := fun t ht => (hA t ht).1
    asgS := fun t ht => (hA t ht).2.1
    impl := fun t u b e => by
      have := List.all_eq_true.1 h3 ((t, u), b) (lookup_in e)
      simp only [Bool.and_eq_true, beq_iff_eq, Bool.not_eq_true'] at this
      exact ⟨this.1.1, this.1.2, this.2⟩ }

def liesCheck (P : Program) (R : RTab) (bt : Nat) : Bool := R.lies.all fun x => liesAt P P.depth x.1 (x.2.2 / P.cellsOf x.1) x.2.1 bt 1
theorem lies_of {P : Program} {R : RTab} {bt : Nat} (h : liesCheck P R bt = true) {t o n : Nat} (e : R.lies.contains (t, o, n) = true) : liesAt P P.depth t (n / P.cellsOf t) o bt 1 = true :=
  List.all_eq_true.1 h (t, o, n) (List.contains_iff_mem.1 e)
end Am
end
