/- The operations on boxes: variables made, read and written. -/
import Derived.Test.YtgklpnendmhbjaaGreatDoorA1
import Derived.LaidEql
import Derived.Laws.StructEq
import Derived.Laws.BytesString
import Derived.Lib.UnsafeStr
import Derived.Laws.Append
import Derived.Laws.AppendOwn
set_option linter.unusedSimpArgs false
set_option linter.unusedVariables false
set_option linter.unusedSectionVars false
set_option linter.unnecessarySimpa false
section
namespace Am
open Go

section
variable {P : Program} {G : Nat} {T W : Loc → Prop} {M M' : Mp} {h h' : Heap} {w w' : World}

/-- the operation's run comes to what the abstract one says -/
def SR (P : Program) (G : Nat) (T W : Loc → Prop) (M : Mp) (w : World) (v : AV) (h' : Heap) (s : Sem Value) : Prop :=
  ∃ c w' M', s.run P w = .ok c w' ∧ Good P G T M' h' w' ∧ Stp W M w M' w' ∧ VRel P G M' v c

theorem SR.pure (g : Good P G T M h w) {v : AV} {s : Sem Value} {c : Value} (hr : s.run P w = .ok c w) (hv : VRel P G M v c) : SR P G T W M w v h s :=
  ⟨c, w, M, hr, g, .refl W M w, hv⟩

theorem sizeT_run {t : TypeId} {n : Nat} (e : sizeT P t = some n) (w : World) : (Go.sizeOf t).run P w = .ok n w := by
  unfold sizeT at e
  split at e
  · simp only [Option.map_eq_some_iff] at e
    obtain ⟨i, hi, rfl⟩ := e
    simp [Go.sizeOf, typeInfo, hi]
  · cases e

theorem sizeT_und {t : TypeId} {n : Nat} (e : sizeT P t = some n) : ∃ d, P.underlying t = some d := by
  unfold sizeT at e
  split at e
  · rename_i hs; exact Option.isSome_iff_exists.1 hs
  · cases e

theorem isAgg_run {t : TypeId} {d : TypeDesc} (e : P.underlying t = some d) (w : World) : (isAgg t).run P w = .ok (isAggT P t) w := by
  simp only [isAgg, Sem.run_bind, run_underlying e, Result.andThen_ok, isAggT, e]
  cases d <;> rfl

theorem zeroT_run {t : TypeId} {z : AV} (e : zeroT P t = some z) (w : World) : ∃ c, (zeroValue t).run P w = .ok c w ∧ cv c = some z := by
  unfold zeroT at e
  cases hi : P.info? t with
  | none => simp [hi] at e
  | some i =>
    cases hz : i.zero with
    | none => simp [hi, hz] at e
    | some c =>
      simp [hi, hz] at e
      exact ⟨c, by simp [zeroValue, typeInfo, hi, hz], e⟩

theorem add_none (b o i : Nat) : (⟨b, o, none⟩ : Addr).add i = ⟨b, o + i, none⟩ := by
  unfold Addr.add
  split
  · rename_i h; subst h; rfl
  · rfl

theorem run_loadCellsFrom {b o : Nat} {f : Nat → Value} : ∀ (n i : Nat) (acc : Array Value), (∀ j, i ≤ j → j < i + n → w.cell? ⟨b, o + j, none⟩ = some (f j)) →
    (loadCellsFrom ⟨b, o, none⟩ i n acc).run P w = .ok (acc ++ ((List.range' i n).map f).toArray) w
  | 0, i, acc, _ => by simp [loadCellsFrom]
  | n + 1, i, acc, hc => by
    have h1 := hc i (Nat.le_refl _) (by omega)
    simp only [loadCellsFrom, add_none, Sem.run_bind, run_load, h1, Result.andThen_ok]
    rw [run_loadCellsFrom n (i + 1) _ (fun j hj hj' => hc j (by omega) (by omega))]
    simp [List.range'_succ]

theorem run_loadCells {b o n : Nat} {f : Nat → Value} (hc : ∀ j, j < n → w.cell? ⟨b, o + j, none⟩ = some (f j)) :
    (loadCells ⟨b, o, none⟩ n).run P w = .ok ((List.range' 0 n).map f).toArray w := by
  have := run_loadCellsFrom (P := P) (w := w) (b := b) (o := o) (f := f) n 0 #[] (fun j _ hj => hc j (by omega))
  simpa [loadCells] using this

theorem loadVar_ok {t : TypeId} {sz b o off : Nat} {cs : List AV} {f : Nat → Value} {v : AV} (hs : sizeT P t = some sz)
    (hc : ∀ i, i < cs.length → w.cell? ⟨b, o + i, none⟩ = some (f i)) (hr : ∀ i, i < cs.length → VRel P G M (cs.getD i .junk) (f i))
    (hv : cellAt (isAggT P t) sz cs off = some v) : ∃ c, (loadVar t ⟨b, o + off, none⟩).run P w = .ok c w ∧ VRel P G M v c := by
  obtain ⟨d, hd⟩ := sizeT_und hs
  have hl : LRel P G M cs ((List.range' 0 cs.length).map f).toArray := by
    refine ⟨by simp, fun i hi => ?_⟩
    have := hr i hi
    simpa [Array.getD, hi] using this
  simp only [loadVar, Sem.run_bind, isAgg_run hd, Result.andThen_ok]
  cases ha : isAggT P t with
  | true =>
    rw [ha] at hv
    obtain ⟨hle, hv⟩ := cellAt_agg hl hv
    simp only [if_true, Sem.run_bind, sizeT_run hs, Result.andThen_ok]
    rw [run_loadCells (f := fun j => f (off + j)) (fun j hj => by have := hc (off + j) (by omega); rwa [Nat.add_assoc])]
    refine ⟨_, rfl, ?_⟩
    have e : (((List.range' 0 cs.length).map f).toArray.extract off (off + sz)) = ((List.range' 0 sz).map fun j => f (off + j)).toArray := by
      apply Array.ext
      · simp; omega
      · intro i h1 h2
        simp
    rw [← e]; exact hv
  | false =>
    rw [ha] at hv
    obtain ⟨hlt, hv⟩ := cellAt_one hl hv
    have h1 := hc off hlt
    simp only [Bool.false_eq_true, if_false, run_load, h1]
    refine ⟨_, rfl, ?_⟩
    simpa [Array.getD, hlt] using hv

theorem cells_get {b : Nat} {arr : Array Value} {el : TypeId} {fz : Nat × Nat} (hb : w.heap[b]? = some (.cells arr el fz)) {o : Nat} (ho : o < arr.size) :
    w.cell? ⟨b, o, none⟩ = some (arr.getD o undef) := by
  simp [World.cell?, hb, Array.getD, ho]

theorem load_ok (g : Good P G T M h w) {t : TypeId} {sz : Nat} {x v : AV} {c : Value} (hs : sizeT P t = some sz) (hx : VRel P G M x c)
    (he : (match (generalizing := false) x with
      | .ptr n off => match h.get n with
        | some (.cells _ cs) => match cellAt (isAggT P t) sz cs off with
          | some v => some (v, h.rd n)
          | none => none
        | _ => none
      | .eptr cs off => match cellAt (isAggT P t) sz cs off with
        | some v => some (v, h)
        | none => none
      | .optr s i off => match h.slot s with
        | some (.arr _ xs) => match (xs.getD i .junk).cells? with
          | some cs => match cellAt (isAggT P t) sz cs off with
            | some v => some (v, h.rdS s)
            | none => none
          | none => none
        | _ => none
      | _ => none) = some (v, h')) (cv : Cov T W h') : SR P G T W M w v h' (Instr.loadAt t c) := by
  cases x <;> simp only [reduceCtorEq] at he
  · rename_i n off
    cases hg : h.get n with
    | none => simp [hg] at he
    | some o =>
      cases o <;> simp only [hg, reduceCtorEq] at he
      rename_i cs
      cases hv : cellAt (isAggT P t) sz cs off with
      | none => simp [hv] at he
      | some u =>
        simp only [hv, Option.some.injEq, Prod.mk.injEq] at he
        obtain ⟨rfl, rfl⟩ := he
        obtain ⟨b, hb, arr, el, fz, h1, _, h3, h4⟩ := g.boxes n _ cv.of_rd hg
        cases hx with
        | ptr hb' =>
          rw [hb] at hb'
          cases hb'
          obtain ⟨c, hc, hv'⟩ := loadVar_ok (P := P) (w := w) (M := M) (G := G) (b := b) (o := 0) (f := fun i => arr.getD i undef) hs
            (fun i hi => by rw [Nat.zero_add]; exact cells_get h1 (by omega)) h4 hv
          rw [Nat.zero_add] at hc
          exact ⟨c, w, M, by simp only [Instr.loadAt, Instr.sureAddr, Sem.run_bind, Sem.run_pure, Result.andThen_ok, hc], g.rd n, .refl W M w, hv'⟩
  · rename_i cs off
    cases hv : cellAt (isAggT P t) sz cs off with
    | none => simp [hv] at he
    | some u =>
      simp only [hv, Option.some.injEq, Prod.mk.injEq] at he
      obtain ⟨rfl, rfl⟩ := he
      cases hx with
      | eptr f hn hp hr =>
        obtain ⟨c, hc, hv'⟩ := loadVar_ok (P := P) (w := w) (M := M) (G := G) (f := f) hs (fun i hi => g.mok.pins _ _ _ (hp i hi)) hr hv
        exact .pure g (by simp only [Instr.loadAt, Instr.sureAddr, Sem.run_bind, Sem.run_pure, Result.andThen_ok, hc]) hv'
  · rename_i s i off
    cases hg : h.slot s with
    | none => simp [hg] at he
    | some o =>
      cases o <;> simp only [hg, reduceCtorEq] at he
      rename_i szo xs
      cases hk : (xs.getD i .junk).cells? with
      | none => simp only [hk, reduceCtorEq] at he
      | some cs =>
        simp only [hk] at he
        cases hv : cellAt (isAggT P t) sz cs off with
        | none => simp [hv] at he
        | some u =>
          simp only [hv, Option.some.injEq, Prod.mk.injEq] at he
          obtain ⟨rfl, rfl⟩ := he
          obtain ⟨r, h1, _, _, _, _, _, _, h0, _, _, h5, h6, f, h7⟩ := g.slots s _ cv.of_rdS hg
          have hi : i < xs.length := by
            rcases Nat.lt_or_ge i xs.length with h | h
            · exact h
            · simp [List.getD_eq_getElem?_getD, List.getElem?_eq_none h, AV.cells?] at hk
          obtain ⟨k1, k2, k3, k4, k5⟩ := h7 i hi
          have hl := cells_rel k4 hk
          cases hx with
          | optr hx =>
            simp only [ElemOk, h1] at hx
            obtain ⟨rfl, rfl⟩ := hx
            have e := hl.1
            rw [h0, Nat.zero_add]
            obtain ⟨c, hc, hv'⟩ := loadVar_ok (P := P) (w := w) (M := M) (G := G) (b := r.b) (o := i * r.sz) (f := fun j => (f i).cells.getD j undef) hs
              (fun j hj => k5 j (by omega)) hl.2 hv
            exact ⟨c, w, M, by simp only [Instr.loadAt, Instr.sureAddr, Sem.run_bind, Sem.run_pure, Result.andThen_ok, hc], g.rdS s, .refl W M w, hv'⟩

theorem newVar_ok (g : Good P G T M h w) {t : TypeId} {x : AV} {cs : List AV} {c : Value} (hx : VRel P G M x c) (hc : x.cells? = some cs) :
    ∃ w' M', (newVar t c).run P w = .ok ⟨w.heap.size, 0, none⟩ w' ∧ M'.box h.nb = some w.heap.size ∧ Good P G T M' (h.push (.cells t cs)) w' ∧ Stp W M w M' w' := by
  have hl := cells_rel hx hc
  refine ⟨w.alloc (.cells c.cells t), M.addBox h.nb w.heap.size, rfl, by simp [Mp.addBox], ?_, Stp.addBox W (g.fbox _ (Nat.le_refl _)) g.nbeq.symm _⟩
  refine g.addBox _ _ ⟨c.cells, ⟨t, rfl⟩, (0, 0), alloc_heap_new _, fun o => ?_, hl.1, fun i hi => (hl.2 i hi).mono (Mp.addBox_le (g.fbox _ (Nat.le_refl _)))⟩ (by simp)
  simp

theorem alloc_ok (g : Good P G T M h w) {t : TypeId} {z : AV} {zc : List AV} (hz : zeroT P t = some z) (hc : z.cells? = some zc) :
    SR P G T W M w (.ptr h.nb 0) (h.push (.cells t zc)) (Instr.alloc t true (.tuple #[])) := by
  obtain ⟨c, h1, h2⟩ := zeroT_run hz w
  obtain ⟨w', M', k1, k2, k3, k4⟩ := newVar_ok (W := W) (t := t) g (cv_rel h2) hc
  exact ⟨_, w', M', by simp only [Instr.alloc, Sem.run_bind, h1, Result.andThen_ok, k1, Sem.run_pure], k3, k4, .ptr k2⟩

theorem box_ok (g : Good P G T M h w) {t : TypeId} {x : AV} {c : Value} {cs : List AV} (hx : VRel P G M x c) (hc : x.cells? = some cs) :
    SR P G T W M w (.ptr h.nb 0) (h.push (.cells t cs)) (Instr.box t c) := by
  obtain ⟨w', M', k1, k2, k3, k4⟩ := newVar_ok (W := W) (t := t) g hx hc
  exact ⟨_, w', M', by simp only [Instr.box, Sem.run_bind, k1, Result.andThen_ok, Sem.run_pure], k3, k4, .ptr k2⟩

theorem setCell_cells {b o : Nat} {arr : Array Value} {el : TypeId} {fz : Nat × Nat} (hb : w.heap[b]? = some (.cells arr el fz)) (v : Value) :
    (w.setCell ⟨b, o, none⟩ v).heap[b]? = some (.cells (arr.setIfInBounds o v) el fz) := by
  simp [World.setCell, Array.getElem?_modify, hb]

theorem run_storeCells {b o : Nat} {el : TypeId} {fz : Nat × Nat} : ∀ (vs : List Value) (i : Nat) (w : World) (arr : Array Value), w.heap[b]? = some (.cells arr el fz) →
    (∀ j, j < vs.length → w.frozen? ⟨b, o + i + j, none⟩ = false) → o + i + vs.length ≤ arr.size → (∀ v ∈ vs, v.oneCell' = true) →
    ∃ w', (storeCells ⟨b, o, none⟩ vs i).run P w = .ok () w' ∧ OneBlock w w' b ∧ w'.heap[b]? = some (.cells (putV arr (o + i) vs) el fz)
  | [], i, w, arr, hb, _, _, _ => ⟨w, by simp [storeCells], .refl w b, hb⟩
  | v :: vs, i, w, arr, hb, hf, hle, ho => by
    simp only [List.length_cons] at hle hf
    have h1 : w.cell? ⟨b, o + i, none⟩ = some (arr.getD (o + i) undef) := cells_get hb (by omega)
    have h2 : w.frozen? ⟨b, o + i, none⟩ = false := by have := hf 0 (by omega); simpa using this
    have hb1 := setCell_cells (o := o + i) hb v
    obtain ⟨w', k1, k2, k3⟩ := run_storeCells vs (i + 1) (w.setCell ⟨b, o + i, none⟩ v) _ hb1
      (fun j hj => by rw [World.frozen?_setCell]; have := hf (j + 1) (by omega); rwa [show o + (i + 1) + j = o + i + (j + 1) by omega])
      (by simp; omega) (fun u hu => ho u (List.mem_cons_of_mem _ hu))
    refine ⟨w', ?_, (OneBlock.setCell w b (o + i) v).trans k2, ?_⟩
    · have h3 := run_store P w ⟨b, o + i, none⟩ v .plain (ho v (List.mem_cons_self ..))
      simp only [h1, h2, Bool.false_eq_true, if_false] at h3
      simp only [storeCells, Sem.run_bind, add_none]
      rw [show store ⟨b, o + i, none⟩ v = store ⟨b, o + i, none⟩ v .plain from rfl, h3]
      simp only [Result.andThen_ok]
      exact k1
    · simp only [putV]
      rw [k3]
      rfl

theorem store_ok (g : Good P G T M h w) {t : TypeId} {sz n off : Nat} {x : AV} {vs cs : List AV} {ty : Nat} {p c : Value} (hs : sizeT P t = some sz)
    (hp : VRel P G M (.ptr n off) p) (hx : VRel P G M x c) (hc : x.cells? = some vs) (hg : h.get n = some (.cells ty cs))
    (hl : vs.length = sz) (hle : off + sz ≤ cs.length) (hG : G ≤ n) (ha : vs.all AV.scalar = true)
    (cv : Cov T W ((h.wr n).put n (.cells ty (putCells cs off vs)))) :
    ∃ w', (Instr.storeAt t p c).run P w = .ok () w' ∧ Good P G T M ((h.wr n).put n (.cells ty (putCells cs off vs))) w' ∧ Stp W M w M w' := by
  have cv' : Cov T W (h.wr n) := cv.of_grow (Grow.put _ _ _)
  obtain ⟨hT, hW⟩ := cv'.of_wr
  obtain ⟨b, hb, arr, el, fz, h1, h2, h3, h4⟩ := g.boxes n _ hT hg
  have hcl := cells_rel hx hc
  cases hp with
  | ptr hb' =>
    rw [hb] at hb'; cases hb'
    have hf2 := lrel_iff.1 hcl
    have hsc : ∀ v ∈ c.cells.toList, v.oneCell' = true := by
      clear hc hcl hl cv
      intro v hv
      generalize c.cells.toList = l at hf2 hv
      induction hf2 with
      | nil => cases hv
      | cons hx _ ih =>
        simp only [List.all_cons, Bool.and_eq_true] at ha
        rcases List.mem_cons.1 hv with rfl | hv
        · exact scalar_rel hx ha.1
        · exact ih ha.2 hv
    have e := hcl.1
    obtain ⟨w', k1, k2, k3⟩ := run_storeCells (P := P) (o := off) c.cells.toList 0 w arr h1 (fun j _ => h2 _) (by simp; omega) hsc
    refine ⟨w', ?_, ?_, Stp.put hW hb k2⟩
    · have e2 : ¬ c.cells.size ≠ sz := by omega
      simp only [Instr.storeAt, Instr.sureAddr, storeVar, Sem.run_bind, Sem.run_pure, Result.andThen_ok, sizeT_run hs, Sem.run_ite]
      simp only [e2, if_false]
      simpa using k1
    · have g' := g.wr n
      have hg' : (h.wr n).get n = some (.cells ty cs) := by simpa using hg
      refine g'.put hb hg' (fun i => g.mok.boxpin n b i hG hb) k2 _ ⟨putV arr off c.cells.toList, el, fz, by simpa using k3, fun o => ?_, by rw [putV_size, putCells_length]; exact h3, ?_⟩ (by simp)
      · have hfz := h2 o
        simp only [World.frozen?, h1] at hfz
        simp only [World.frozen?, k3]
        exact hfz
      · have hL : LRel P G M cs arr := ⟨h3, h4⟩
        exact (hL.put hf2).2
end
end Am
end
section
namespace Am
open Go

section
variable {P : Program} {G : Nat} {T W : Loc → Prop} {M M' : Mp} {h h' : Heap} {w w' : World}

/-! ### structs, arrays and slices of parts -/

theorem fill_rel {place : Nat → Option (Nat × Nat)} {env : Env} : ∀ {aps : List (Nat × Nat × AO)} {ps : List (Nat × Value)} {cs cs' : List AV} {vs : Array Value},
    F2 (fun ap p => place p.1 = some (ap.1, ap.2.1) ∧ VRel P G M (ap.2.2.ev env) p.2) aps ps → LRel P G M cs vs → fillA env cs aps = some cs' →
    ∃ vs', Instr.fill place vs ps = some vs' ∧ LRel P G M cs' vs'
  | [], [], cs, cs', vs, .nil, hl, hf => by
    simp only [fillA, Option.some.injEq] at hf; subst hf
    exact ⟨vs, rfl, hl⟩
  | (off, sz, x) :: aps, (i, v) :: ps, cs, cs', vs, .cons hx hr, hl, hf => by
    simp only [fillA] at hf
    cases hc : (x.ev env).cells? with
    | none => simp [hc] at hf
    | some xs =>
      simp only [hc] at hf
      split at hf
      · rename_i hh
        have hcl := cells_rel hx.2 hc
        have e : v.cells.size = xs.length := hcl.1
        have e2 : vs.size = cs.length := hl.1
        simp only [Instr.fill, hx.1]
        have h2 := foldl_putV v.cells.toList 0 vs off
        simp only [Nat.add_zero] at h2
        have h3 : v.cells.zipIdx.foldl (fun cs (p : Value × Nat) => cs.setIfInBounds (off + p.2) p.1) vs = putV vs off v.cells.toList := by
          rw [← h2, ← Array.foldl_toList, Array.toList_zipIdx]
        have h4 := fill_rel hr (hl.put (off := off) (lrel_iff.1 hcl)) hf
        obtain ⟨vs', h5, h6⟩ := h4
        refine ⟨vs', ?_, h6⟩
        rw [← h5, ← h3]
        split
        · rename_i hbad
          have h6 : v.cells.size = sz := by omega
          have h7 : ¬ vs.size < off + v.cells.size := by omega
          simp [h6] at hbad
          omega
        · rfl
      · cases hf

theorem trParts_rel {place : Nat → Option (Nat × Nat)} (hg : Glob P M) {env : Env} {a : Act} (he : ERel P G M env a.tmps) {ps : Array (Nat × Operand)} {aps : List (Nat × Nat × AO)}
    (ht : trParts P place ps = some aps) :
    F2 (fun ap p => place p.1 = some (ap.1, ap.2.1) ∧ VRel P G M (ap.2.2.ev env) p.2) aps ((ps.map fun (i, x) => (i, a.eval x)).toList) := by
  have h1 := mapM_f2 ht
  rw [Array.toList_map]
  clear ht
  generalize ps.toList = l at h1
  induction h1 with
  | nil => exact .nil
  | @cons p ap l aps hx _ ih =>
    obtain ⟨i, x⟩ := p
    refine .cons ?_ ih
    simp only at hx ⊢
    cases hp : place i with
    | none => simp [hp] at hx
    | some q =>
      cases hx' : trO P x with
      | none => simp [hp, hx'] at hx
      | some ax =>
        simp [hp, hx'] at hx
        subst hx
        exact ⟨rfl, ev_rel hg he hx'⟩

theorem mapM_places (w : World) : ∀ (fs : List Field), (∀ f ∈ fs, (sizeT P f.type).isSome = true) →
    (fs.mapM fun f => (do pure (f.offset, ← Go.sizeOf f.type) : Sem (Nat × Nat))).run P w = .ok (fs.map fun f => (f.offset, (sizeT P f.type).getD 0)) w
  | [], _ => by simp
  | f :: fs, hf => by
    obtain ⟨n, hn⟩ := Option.isSome_iff_exists.1 (hf f (List.mem_cons_self ..))
    simp only [List.mapM_cons, Sem.run_bind, sizeT_run hn, Result.andThen_ok, Sem.run_pure, mapM_places w fs (fun f' h' => hf f' (List.mem_cons_of_mem _ h')), List.map_cons, hn,
      Option.getD_some]

theorem build_struct_ok (g : Good P G T M h w) {env : Env} {a : Act} (he : ERel P G M env a.tmps) {t : TypeId} {fs : Array Field} {z : AV} {zc cs : List AV} {ps : Array (Nat × Operand)}
    {aps : List (Nat × Nat × AO)} (hu : P.underlying t = some (.struct fs)) (hz : zeroT P t = some z) (hzc : z.cells? = some zc)
    (hall : fs.toList.all (fun f => (sizeT P f.type).isSome) = true)
    (ht : trParts P (fun i => do let f ← fs[i]?; some (f.offset, ← sizeT P f.type)) ps = some aps) (hf : fillA env zc aps = some cs) :
    SR P G T W M w (.agg cs) h (Instr.build t (ps.map fun (i, x) => (i, a.eval x))) := by
  obtain ⟨c, h1, h2⟩ := zeroT_run hz w
  have hl := cells_rel (cv_rel (P := P) (G := G) (M := M) h2) hzc
  have hp := trParts_rel g.glob he ht
  have hpl := mapM_places (P := P) w fs.toList (fun f hf => by rw [List.all_eq_true] at hall; exact hall f hf)
  have hp' : F2 (fun ap p => ((fs.map fun f => (f.offset, (sizeT P f.type).getD 0))[p.1]?) = some (ap.1, ap.2.1) ∧ VRel P G M (ap.2.2.ev env) p.2) aps
      ((ps.map fun (i, x) => (i, a.eval x)).toList) := by
    refine hp.imp fun ap p hh => ⟨?_, hh.2⟩
    have := hh.1
    rw [Array.getElem?_map]
    cases hf' : fs[p.1]? with
    | none => simp [hf'] at this
    | some f =>
      cases hs : sizeT P f.type with
      | none => simp [hf', hs] at this
      | some n => simp [hf', hs] at this; simp [hs, ← this]
  obtain ⟨vs, h3, h4⟩ := fill_rel hp' hl hf
  refine .pure g (c := .agg vs) ?_ h4.agg
  simp only [Instr.build, Sem.run_bind, h1, Result.andThen_ok, run_underlying hu]
  rw [Array.mapM_eq_mapM_toList]
  simp only [Sem.run_map, hpl, Result.andThen_ok]
  have e : (List.map (fun f : Field => (f.offset, (sizeT P f.type).getD 0)) fs.toList).toArray = fs.map fun f => (f.offset, (sizeT P f.type).getD 0) := by rw [← Array.toList_map, Array.toArray_toList]
  rw [e, h3]
  rfl

theorem build_array_ok (g : Good P G T M h w) {env : Env} {a : Act} (he : ERel P G M env a.tmps) {t e : TypeId} {n s : Nat} {z : AV} {zc cs : List AV} {ps : Array (Nat × Operand)}
    {aps : List (Nat × Nat × AO)} (hu : P.underlying t = some (.array n e)) (hs : sizeT P e = some s) (hz : zeroT P t = some z) (hzc : z.cells? = some zc)
    (ht : trParts P (fun i => some (i * s, s)) ps = some aps) (hf : fillA env zc aps = some cs) :
    SR P G T W M w (.agg cs) h (Instr.build t (ps.map fun (i, x) => (i, a.eval x))) := by
  obtain ⟨c, h1, h2⟩ := zeroT_run hz w
  have hl := cells_rel (cv_rel (P := P) (G := G) (M := M) h2) hzc
  obtain ⟨vs, h3, h4⟩ := fill_rel (trParts_rel g.glob he ht) hl hf
  refine .pure g (c := .agg vs) ?_ h4.agg
  simp only [Instr.build, Sem.run_bind, h1, Result.andThen_ok, run_underlying hu, sizeT_run hs, h3]
  rfl

theorem repl_get {z : List AV} {s : Nat} (hs : z.length = s) (h0 : 0 < s) : ∀ (n i : Nat), i < n * s → (repl n z).getD i .junk = z.getD (i % s) .junk
  | 0, i, hi => by simp at hi
  | n + 1, i, hi => by
    simp only [repl]
    by_cases hlt : i < s
    · rw [Nat.mod_eq_of_lt hlt]
      simp [List.getD_eq_getElem?_getD, List.getElem?_append_left (by omega : i < z.length)]
    · have hge : s ≤ i := by omega
      have h1 : i % s = (i - s) % s := (Nat.mod_eq_sub_mod hge)
      rw [h1, ← repl_get hs h0 n (i - s) (by rw [Nat.succ_mul] at hi; omega)]
      simp only [List.getD_eq_getElem?_getD]
      rw [List.getElem?_append_right (by omega), hs]

theorem repl_length (z : List AV) : ∀ n, (repl n z).length = n * z.length
  | 0 => by simp [repl]
  | n + 1 => by simp [repl, repl_length z n, Nat.succ_mul]; omega

theorem zeros_rel {z : List AV} {vs : Array Value} (hl : LRel P G M z vs) {n s : Nat} (hs : z.length = s) (h0 : 0 < s) :
    LRel P G M (repl n z) ((Array.range (n * s)).map (vs[· % s]!)) := by
  refine ⟨by simp [repl_length, hs], fun i hi => ?_⟩
  rw [repl_length, hs] at hi
  rw [repl_get hs h0 n i hi]
  have hm : i % s < s := Nat.mod_lt _ h0
  have e : vs.size = s := by rw [hl.1, hs]
  have := hl.2 (i % s) (by omega)
  have h2 : i % s < vs.size := by omega
  simpa [Array.getD, hi, h2, getElem!_pos] using this

end
end Am
end
section
namespace Am
open Go

section
variable {P : Program} {G : Nat} {T W : Loc → Prop} {M M' : Mp} {h h' : Heap} {w w' : World}

theorem str_size {a : ByteArray} {s : List UInt8} (e : a.data.toList = s) : a.size = s.length := by
  have := congrArg List.length e
  simpa using this

theorem part_ok {t : TypeId} {sz off : Nat} {cs : List AV} {vs : Array Value} {v : AV} (hs : sizeT P t = some sz) (hl : LRel P G M cs vs)
    (hv : cellAt (isAggT P t) sz cs off = some v) : ∃ c, (part t vs off).run P w = .ok c w ∧ VRel P G M v c := by
  obtain ⟨d, hd⟩ := sizeT_und hs
  simp only [part, Sem.run_bind, isAgg_run hd, Result.andThen_ok]
  cases ha : isAggT P t with
  | true =>
    rw [ha] at hv
    obtain ⟨_, hv⟩ := cellAt_agg hl hv
    simp only [if_true, Sem.run_bind, sizeT_run hs, Result.andThen_ok, Sem.run_pure]
    exact ⟨_, rfl, hv⟩
  | false =>
    rw [ha] at hv
    obtain ⟨hlt, hv⟩ := cellAt_one hl hv
    have hlt' : off < vs.size := by rw [hl.1]; exact hlt
    simp only [Bool.false_eq_true, if_false, hlt', Array.getElem?_eq_getElem]
    refine ⟨_, rfl, ?_⟩
    simpa [Array.getD, hlt'] using hv

theorem field_ok (g : Good P G T M h w) {t : TypeId} {fs : Array Field} {f : Field} {k sz : Nat} {v : AV} {c : Value} {cs : List AV}
    (hu : P.underlying t = some (.struct fs)) (hf : fs[k]? = some f) (hs : sizeT P f.type = some sz) (hx : VRel P G M (.agg cs) c)
    (hv : cellAt (isAggT P f.type) sz cs f.offset = some v) : SR P G T W M w v h (Instr.field t c k) := by
  cases hx with
  | agg hl hc =>
    obtain ⟨c, h1, h2⟩ := part_ok (w := w) hs ⟨hl, hc⟩ hv
    refine .pure g ?_ h2
    simp only [Instr.field, Sem.run_bind, run_underlying hu, Result.andThen_ok, hf, asAgg, Sem.run_pure, h1]

theorem faddr_ok (g : Good P G T M h w) {t : TypeId} {fs : Array Field} {f : Field} {k sz : Nat} {x v : AV} {c : Value}
    (hu : P.underlying t = some (.struct fs)) (hf : fs[k]? = some f) (hs : sizeT P f.type = some sz) (h0 : sz ≠ 0) (hx : VRel P G M x c)
    (hv : (match (generalizing := false) x with
      | .ptr n o => some (AV.ptr n (o + f.offset), h)
      | .eptr cs o => some (.eptr cs (o + f.offset), h)
      | .optr s i o => some (.optr s i (o + f.offset), h)
      | _ => none) = some (v, h')) : SR P G T W M w v h' (Instr.fieldAt t c k) := by
  have key : ∀ b o, (Instr.fieldAt t (.pointer (some ⟨b, o, none⟩)) k).run P w = .ok (.pointer (some ⟨b, o + f.offset, none⟩)) w := by
    intro b o
    simp only [Instr.fieldAt, Sem.run_bind, run_underlying hu, Result.andThen_ok, hf, Instr.sureAddr, Sem.run_pure, fieldPlace, sizeT_run hs, h0, if_false, add_none]
  cases x <;> simp only [reduceCtorEq, Option.some.injEq, Prod.mk.injEq] at hv
  · obtain ⟨rfl, rfl⟩ := hv
    cases hx with | ptr hb => exact .pure g (key _ _) (.ptr hb)
  · obtain ⟨rfl, rfl⟩ := hv
    cases hx with
    | @eptr _ off b o cv hn hp hr =>
      exact .pure g (key _ _) (by rw [Nat.add_assoc]; exact .eptr cv hn hp hr)
  · rename_i s i off
    obtain ⟨rfl, rfl⟩ := hv
    cases hx with
    | @optr _ _ _ b o he =>
      refine .pure g (key _ _) (.optr ?_)
      revert he
      unfold ElemOk
      cases M.slot s with
      | unborn => intro he; exact he
      | dead => intro _; trivial
      | live r => intro he; exact ⟨he.1, by rw [he.2]; omega⟩

theorem nilck_ok {x v : AV} {c : Value} (hx : VRel P G M x c)
    (hv : (match (generalizing := false) x with
      | .ptr n off => some (AV.ptr n off, h)
      | .eptr cs off => some (.eptr cs off, h)
      | .func f cs => some (.func f cs, h)
      | .iface t v => some (.iface t v, h)
      | .yield l => some (.yield l, h)
      | _ => none) = some (v, h')) : h' = h ∧ VRel P G M v c ∧ c ≠ .pointer none ∧ c ≠ .nilIface ∧ c ≠ .nilFunc ∧ ∀ n a b, c ≠ .func (.method n) a b := by
  cases x <;> simp only [reduceCtorEq, Option.some.injEq, Prod.mk.injEq] at hv <;> obtain ⟨rfl, rfl⟩ := hv <;> refine ⟨rfl, hx, ?_⟩ <;> cases hx <;> simp

/-! ### elements -/

theorem elem_cells {x : AV} {c : Value} {cs : List AV} (hx : VRel P G M x c) (hc : x.cells? = some cs) : c.cells.size = cs.length := (cells_rel hx hc).1

theorem nf_cells {x : AV} {cs : List AV} {B S : Nat} (hn : x.nf B S = true) (hc : x.cells? = some cs) : ∀ i, i < cs.length → (cs.getD i .junk).nf B S = true := by
  intro i hi
  cases x <;> simp only [AV.cells?, Option.some.injEq, reduceCtorEq] at hc <;> subst hc
  case agg cs => simp only [AV.nf] at hn; exact nfL_get hn hi
  all_goals
    have : i = 0 := by simpa using hi
    subst this
    simpa using hn

theorem iaddr_slice_ok (g : Good P G T M h w) {t e : TypeId} {sz : Nat} {xs cs : List AV} {p : Perm} {c : Value} {k : IntKind} {i : Int}
    (hu : P.underlying t = some (.slice e)) (hs : sizeT P e = some sz) (hx : VRel P G M (.slice xs p) c) (h0 : 0 ≤ i) (hi : i < xs.length)
    (hc : (xs.getD i.toNat .junk).cells? = some cs) (hl : cs.length = sz) : SR P G T W M w (.eptr cs 0) h (Instr.indexAt t c (.int k i)) := by
  cases hx with
  | sliceNil _ => simp at hi; omega
  | @slice xs p b o cap sz' cv hs' hp hr hcap hk =>
    have hlt : i.toNat < xs.length := by omega
    obtain ⟨k1, k2, k3⟩ := hs' i.toNat hlt
    have hcl := cells_rel (hr i.toNat hlt) hc
    have e : sz' = sz := by rw [← k1, hcl.1, hl]
    subst e
    refine .pure g (c := .pointer (some ⟨b, o + i.toNat * sz', none⟩)) ?_ (.eptr (off := 0) (fun j => (cv i.toNat).cells.getD j undef) (nf_cells k3 hc) ?_ hcl.2)
    · simp only [Instr.indexAt, asIntOf, Sem.run_bind, Sem.run_pure, Result.andThen_ok, run_underlying hu]
      rw [if_pos ⟨h0, hi⟩]
      simp only [Sem.run_bind, sizeT_run hs, Result.andThen_ok, Sem.run_pure, add_none]
    · intro j hj
      exact hp i.toNat hlt j (by omega)

theorem iaddr_own_ok (g : Good P G T M h w) {t e : TypeId} {sz s len : Nat} {xs : List AV} {c : Value} {k : IntKind} {i : Int}
    (hu : P.underlying t = some (.slice e)) (hs : sizeT P e = some sz) (hx : VRel P G M (.oslice s len) c) (h0 : 0 ≤ i) (hi : i < len)
    (hg : h.slot s = some (.arr sz xs)) (cv : Cov T W (h.rdS s)) :
    SR P G T W M w (.optr s i.toNat 0) (h.rdS s) (Instr.indexAt t c (.int k i)) := by
  obtain ⟨r, h1, _, _, _, _, _, _, _, _, h4, h5, h6, f, h7⟩ := g.slots s _ cv.of_rdS hg
  cases hx with
  | @oslice _ _ b o cap ho hcap =>
    simp only [OwnOk, h1] at ho
    obtain ⟨rfl, rfl, rfl⟩ := ho
    subst h4
    refine ⟨.pointer (some ⟨r.b, r.o + i.toNat * r.sz, none⟩), w, M, ?_, g.rdS s, .refl W M w, .optr ?_⟩
    · simp only [Instr.indexAt, asIntOf, Sem.run_bind, Sem.run_pure, Result.andThen_ok, run_underlying hu]
      rw [if_pos ⟨h0, hi⟩]
      simp only [Sem.run_bind, sizeT_run hs, Result.andThen_ok, Sem.run_pure, add_none]
    · simp only [ElemOk, h1, true_and]
      omega

theorem iaddr_arr_ok (g : Good P G T M h w) {t e : TypeId} {n sz b o : Nat} {c : Value} {k : IntKind} {i : Int}
    (hu : P.underlying t = some (.array n e)) (hs : sizeT P e = some sz) (hx : VRel P G M (.ptr b o) c) (h0 : 0 ≤ i) (hi : i < n) :
    SR P G T W M w (.ptr b (o + i.toNat * sz)) h (Instr.indexAt t c (.int k i)) := by
  cases hx with
  | ptr hb =>
    refine .pure g ?_ (.ptr hb)
    simp only [Instr.indexAt, asIntOf, Sem.run_bind, Sem.run_pure, Result.andThen_ok, run_underlying hu, Instr.sureAddr]
    rw [if_pos ⟨h0, hi⟩]
    simp only [Sem.run_bind, sizeT_run hs, Result.andThen_ok, Sem.run_pure, add_none]

theorem index_str_ok (g : Good P G T M h w) {t : TypeId} {s : List UInt8} {c : Value} {k : IntKind} {i : Int} {b : UInt8}
    (hu : P.underlying t = some .string) (hx : VRel P G M (.str s) c) (h0 : 0 ≤ i) (hb : s[i.toNat]? = some b) :
    SR P G T W M w (byteA b) h (Instr.index t c (.int k i)) := by
  obtain ⟨a, rfl, rfl⟩ := vr_str hx
  have e : a[i.toNat]? = some b := by
    obtain ⟨hlt, hb⟩ := List.getElem?_eq_some_iff.1 hb
    have h2 : i.toNat < a.size := by simpa using hlt
    rw [getElem?_pos a i.toNat h2]
    rw [← hb]
    simp [ByteArray.getElem_eq_getElem_data]
  refine .pure g (c := .int .u8 b.toNat) ?_ .int
  simp only [Instr.index, asIntOf, Sem.run_bind, Sem.run_pure, Result.andThen_ok, run_underlying hu, h0, if_true, e]

theorem index_arr_ok (g : Good P G T M h w) {t e : TypeId} {n sz : Nat} {cs : List AV} {c : Value} {k : IntKind} {i : Int} {v : AV}
    (hu : P.underlying t = some (.array n e)) (hs : sizeT P e = some sz) (hx : VRel P G M (.agg cs) c) (h0 : 0 ≤ i) (hi : i < n)
    (hv : cellAt (isAggT P e) sz cs (i.toNat * sz) = some v) : SR P G T W M w v h (Instr.index t c (.int k i)) := by
  cases hx with
  | agg hl hc =>
    obtain ⟨c, h1, h2⟩ := part_ok (w := w) hs ⟨hl, hc⟩ hv
    refine .pure g ?_ h2
    simp only [Instr.index, asIntOf, Sem.run_bind, Sem.run_pure, Result.andThen_ok, run_underlying hu]
    rw [if_pos ⟨h0, hi⟩]
    simp only [Sem.run_bind, sizeT_run hs, Result.andThen_ok, h1]

/-! ### pieces -/

theorem bound_ok {y : Nat} {code : BoundsCode} {c : Value} {k : IntKind} {n : Int} (hc : c = .int k n) (h0 : 0 ≤ n) (h1 : n.toNat ≤ y) :
    (Instr.sliceBound c y code).run P w = .ok n.toNat w := by
  subst hc
  have : n ≤ y := by omega
  simp only [Instr.sliceBound, asIntOf, Sem.run_bind, Sem.run_pure, Result.andThen_ok]
  rw [if_pos ⟨h0, this⟩]
  rfl

/-- what 'sliceB' takes for a bound -/
def numB : Option AV → Option (Option Nat)
  | none => some none
  | some (.int _ n) => if 0 ≤ n then some (some n.toNat) else none
  | some _ => none

theorem numB_rel {ax : Option AV} {x : Option Value} {r : Option Nat} (hx : (ax = none ∧ x = none) ∨ ∃ y c, ax = some y ∧ x = some c ∧ VRel P G M y c)
    (e : numB ax = some r) : (r = none ∧ x = none) ∨ ∃ k n, r = some n.toNat ∧ 0 ≤ n ∧ x = some (.int k n) := by
  rcases hx with ⟨rfl, rfl⟩ | ⟨y, c, rfl, rfl, hy⟩
  · simp [numB] at e; exact .inl ⟨e.symm, rfl⟩
  · cases y <;> simp only [numB, reduceCtorEq] at e
    split at e
    · simp only [Option.some.injEq] at e
      subst e
      rename_i k n h0
      exact .inr ⟨k, n, rfl, h0, by rw [vr_int hy]⟩
    · cases e

theorem sliceB_eq (len cap : Nat) (lo hi mx : Option AV) : sliceB len cap lo hi mx = (match numB lo, numB hi, numB mx with
  | some l, some h, some m =>
    match h, m with
    | some h, some m => if m ≤ cap ∧ h ≤ m ∧ l.getD 0 ≤ h then some (l.getD 0, h, some m) else none
    | some h, none => if h ≤ cap ∧ l.getD 0 ≤ h then some (l.getD 0, h, none) else none
    | none, none => if l.getD 0 ≤ len then some (l.getD 0, len, none) else none
    | none, some _ => none
  | _, _, _ => none) := by
  cases lo <;> cases hi <;> cases mx <;> rfl

theorem bounds_ok {len cap cap' : Nat} (isSlice : Bool) (hcap : cap ≤ cap') (hlen : len ≤ cap) {alo ahi amx : Option AV} {lo hi mx : Option Value} {l h m}
    (hlo : (alo = none ∧ lo = none) ∨ ∃ y c, alo = some y ∧ lo = some c ∧ VRel P G M y c)
    (hhi : (ahi = none ∧ hi = none) ∨ ∃ y c, ahi = some y ∧ hi = some c ∧ VRel P G M y c)
    (hmx : (amx = none ∧ mx = none) ∨ ∃ y c, amx = some y ∧ mx = some c ∧ VRel P G M y c)
    (e : sliceB len cap alo ahi amx = some (l, h, m)) :
    (Instr.sliceBounds isSlice len cap' lo hi mx).run P w = .ok (l, h, m.getD cap') w ∧ l ≤ h ∧ h ≤ cap ∧ (∀ k, m = some k → h ≤ k ∧ k ≤ cap) := by
  rw [sliceB_eq] at e
  cases e1 : numB alo with
  | none => simp [e1] at e
  | some r1 =>
    cases e2 : numB ahi with
    | none => simp [e1, e2] at e
    | some r2 =>
      cases e3 : numB amx with
      | none => simp [e1, e2, e3] at e
      | some r3 =>
        simp only [e1, e2, e3] at e
        have hl := numB_rel hlo e1
        have hh := numB_rel hhi e2
        have hm := numB_rel hmx e3
        rcases hm with ⟨rfl, rfl⟩ | ⟨k3, n3, rfl, p3, rfl⟩ <;> rcases hh with ⟨rfl, rfl⟩ | ⟨k2, n2, rfl, p2, rfl⟩
        all_goals try simp only at e
        all_goals try (cases e; done)
        all_goals split at e
        all_goals try (cases e; done)
        all_goals rename_i hq
        all_goals simp only [Option.some.injEq, Prod.mk.injEq] at e
        all_goals obtain ⟨rfl, rfl, rfl⟩ := e
        all_goals rcases hl with ⟨rfl, rfl⟩ | ⟨k1, n1, rfl, p1, rfl⟩
        all_goals simp only [Option.getD_none, Option.getD_some] at hq ⊢
        all_goals simp only [Instr.sliceBounds, Sem.run_bind, Sem.run_pure, Result.andThen_ok]
        all_goals refine ⟨?_, by omega, by omega, fun k hk => by first | (cases hk; done) | (cases hk; omega)⟩
        all_goals (repeat (first | rw [bound_ok rfl (by assumption) (by omega)] | simp only [Result.andThen_ok, Option.isSome_none, Option.isSome_some]))

theorem extract_toList (a : ByteArray) (l h : Nat) : (a.extract l h).data.toList = (a.data.toList.drop l).take (h - l) := by
  rw [ByteArray.data_extract, Array.toList_extract]

theorem slice_str_ok (g : Good P G T M h w) {t : TypeId} {s : List UInt8} {c : Value} {alo ahi : Option AV} {lo hi : Option Value} {l k m}
    (hu : P.underlying t = some .string) (hx : VRel P G M (.str s) c)
    (hlo : (alo = none ∧ lo = none) ∨ ∃ y c, alo = some y ∧ lo = some c ∧ VRel P G M y c)
    (hhi : (ahi = none ∧ hi = none) ∨ ∃ y c, ahi = some y ∧ hi = some c ∧ VRel P G M y c)
    (e : sliceB s.length s.length alo ahi none = some (l, k, m)) : SR P G T W M w (.str ((s.drop l).take (k - l))) h (Instr.sliceAt t c lo hi none) := by
  obtain ⟨a, rfl, rfl⟩ := vr_str hx
  have hsz : a.size = a.data.toList.length := str_size rfl
  obtain ⟨h1, _, _, _⟩ := bounds_ok (P := P) (w := w) (cap' := a.size) false (by omega) (by omega) hlo hhi (.inl ⟨rfl, rfl⟩) e
  rw [hsz] at h1
  refine .pure g (c := .string (a.extract l k)) ?_ (.str (extract_toList a l k))
  simp only [Instr.sliceAt, Sem.run_bind, run_underlying hu, Result.andThen_ok, Instr.slice, Option.isSome_none, Bool.false_eq_true, if_false, Sem.run_pure]
  rw [hsz, h1]
  simp only [Result.andThen_ok]

/-- a piece of a slice value -/
theorem sub_slice {xs : List AV} {p' : Perm} {b o sz l k cap' : Nat} (cv : Nat → Value)
    (hs : ∀ i, i < xs.length → (cv i).cells.size = sz ∧ (xs.getD i .junk).cells?.isSome ∧ (xs.getD i .junk).nf G 0)
    (hp : ∀ i, i < xs.length → ∀ j, j < sz → M.pin b (o + i * sz + j) = some ((cv i).cells.getD j undef))
    (h : ∀ i, i < xs.length → VRel P G M (xs.getD i .junk) (cv i)) (hk : k ≤ xs.length) (hl : l ≤ k) (hc : k - l ≤ cap')
    (hperm : PermOk M p' b (o + l * sz) (k - l) cap') :
    VRel P G M (.slice ((xs.drop l).take (k - l)) p') (.slice (some ⟨b, o + l * sz, none⟩) (k - l) cap') := by
  have e : ((xs.drop l).take (k - l)).length = k - l := by simp; omega
  have e2 : ∀ i, i < k - l → ((xs.drop l).take (k - l)).getD i .junk = xs.getD (l + i) .junk := by
    intro i hi
    simp only [List.getD_eq_getElem?_getD, List.getElem?_take, hi, if_true, List.getElem?_drop]
  have := VRel.slice (P := P) (G := G) (M := M) (xs := (xs.drop l).take (k - l)) (p := p') (b := b) (o := o + l * sz) (cap := cap') (sz := sz) (fun i => cv (l + i))
    (fun i hi => by rw [e] at hi; rw [e2 i hi]; exact hs _ (by omega))
    (fun i hi j hj => by rw [e] at hi; rw [show o + l * sz + i * sz + j = o + (l + i) * sz + j by rw [Nat.add_mul]; omega]; exact hp _ (by omega) j hj)
    (fun i hi => by rw [e] at hi; rw [e2 i hi]; exact h _ (by omega)) (by omega) (by rw [e]; exact hperm)
  rw [e] at this
  exact this

theorem slice_sl_run {t e : TypeId} {sz len cap' l k m : Nat} {base : Option Addr} {lo hi mx : Option Value} (hu : P.underlying t = some (.slice e)) (hs : sizeT P e = some sz)
    (h1 : (Instr.sliceBounds true len cap' lo hi mx).run P w = .ok (l, k, m) w) :
    (Instr.sliceAt t (.slice base len cap') lo hi mx).run P w = .ok (.slice (if m = l then base else base.map (·.add (l * sz))) (k - l) (m - l)) w := by
  simp only [Instr.sliceAt, Sem.run_bind, run_underlying hu, Result.andThen_ok, Instr.slice, h1, sizeT_run hs, Sem.run_pure]

/-- the elements' size is the one that the type tells, if there is an element -/
theorem head_sz {xs : List AV} {sz sz' : Nat} {cv : Nat → Value} (hs : ∀ i, i < xs.length → (cv i).cells.size = sz' ∧ (xs.getD i .junk).cells?.isSome ∧ (xs.getD i .junk).nf G 0)
    (h : ∀ i, i < xs.length → VRel P G M (xs.getD i .junk) (cv i)) (hh : headOk sz xs = true) : xs = [] ∨ sz' = sz := by
  cases xs with
  | nil => exact .inl rfl
  | cons x xs =>
    obtain ⟨k1, k2, _⟩ := hs 0 (by simp)
    have k4 := h 0 (by simp)
    simp at k1 k2 k4
    obtain ⟨cs, hcs⟩ := Option.isSome_iff_exists.1 k2
    have := elem_cells k4 hcs
    simp [headOk] at hh
    refine .inr ?_
    rw [← k1, this, ← hh]
    cases x <;> simp [AV.cells?] at hcs <;> subst hcs <;> simp [AV.ncells]

theorem slice_sl_ok (g : Good P G T M h w) {t e : TypeId} {sz : Nat} {xs : List AV} {p : Perm} {c : Value} {alo ahi amx : Option AV} {lo hi mx : Option Value} {l k m}
    (hu : P.underlying t = some (.slice e)) (hs : sizeT P e = some sz) (hh : headOk sz xs = true) (hx : VRel P G M (.slice xs p) c)
    (hlo : (alo = none ∧ lo = none) ∨ ∃ y c, alo = some y ∧ lo = some c ∧ VRel P G M y c)
    (hhi : (ahi = none ∧ hi = none) ∨ ∃ y c, ahi = some y ∧ hi = some c ∧ VRel P G M y c)
    (hmx : (amx = none ∧ mx = none) ∨ ∃ y c, amx = some y ∧ mx = some c ∧ VRel P G M y c)
    (e' : sliceB xs.length xs.length alo ahi amx = some (l, k, m)) (p' : Perm)
    (hp' : p' = .ro ∨ (p' = .full ∧ m = some k) ∨ (m = none ∧ k = xs.length ∧ p = .full ∧ p' = .full) ∨ (m = none ∧ k = xs.length ∧ l = 0 ∧ p' = p)) :
    SR P G T W M w (.slice ((xs.drop l).take (k - l)) p') h (Instr.sliceAt t c lo hi mx) := by
  cases hx with
  | sliceNil hpn =>
    obtain ⟨h1, h2, h3, h4⟩ := bounds_ok (P := P) (w := w) (cap' := 0) true (by simp) (by simp) hlo hhi hmx e'
    simp at h3
    have hk : k = 0 := by omega
    have hl : l = 0 := by omega
    subst hk hl
    have hm : m.getD 0 = 0 := by
      cases m with
      | none => rfl
      | some m => have := (h4 m rfl).2; simp at this; simpa using this
    rw [hm] at h1
    refine .pure g (slice_sl_run hu hs h1) ?_
    simp only [if_true]
    exact .sliceNil (by rcases hp' with h | ⟨h, _⟩ | ⟨_, _, _, h⟩ | ⟨_, _, _, h⟩ <;> first | exact .inr (.inl h) | exact .inl h | (subst h; exact hpn))
  | @slice _ _ b o cap sz' cv hse hpin hr hcap hperm =>
    obtain ⟨h1, h2, h3, h4⟩ := bounds_ok (P := P) (w := w) (cap' := cap) true hcap (Nat.le_refl _) hlo hhi hmx e'
    refine .pure g (slice_sl_run hu hs h1) ?_
    have hle : k - l ≤ m.getD cap - l := by
      cases m with
      | none => simp; omega
      | some m => have := (h4 m rfl).1; simp; omega
    have hpk : ∀ o', (k - l = 0 ∨ o' = o + l * sz') → (p' = .ro ∨ p' = .full ∨ (l = 0 ∧ o' = o)) → PermOk M p' b o' (k - l) (m.getD cap - l) := by
      intro o' _ ho
      rcases hp' with h | ⟨h, hm⟩ | ⟨hm, hk, hpf, h⟩ | ⟨hm, hk, hl0, h⟩
      · subst h; trivial
      · subst h hm; rfl
      · subst h hm hk hpf; simp [PermOk] at hperm ⊢; omega
      · subst hm hk hl0 h
        rcases ho with h | h | ⟨_, h⟩
        · subst h; trivial
        · subst h; simp [PermOk] at hperm ⊢; omega
        · subst h; simpa using hperm
    have hcase : p' = .ro ∨ p' = .full ∨ l = 0 := by
      rcases hp' with h | ⟨h, _⟩ | ⟨_, _, _, h⟩ | ⟨_, _, h, _⟩
      · exact .inl h
      · exact .inr (.inl h)
      · exact .inr (.inl h)
      · exact .inr (.inr h)
    by_cases hz : k - l = 0
    · -- nothing in it
      have e0 : (xs.drop l).take (k - l) = [] := by simp [hz]
      rw [e0, hz]
      have : ∀ b' o', PermOk M p' b' o' 0 (m.getD cap - l) → VRel P G M (.slice [] p') (.slice (some ⟨b', o', none⟩) 0 (m.getD cap - l)) := fun b' o' hpo =>
        .slice (sz := sz) (fun _ => undef) (fun i hi => by simp at hi) (fun i hi => by simp at hi) (fun i hi => by simp at hi) (by simp) hpo
      split
      · refine this b o ?_
        have := hpk o (.inl hz) (by rcases hcase with h | h | h <;> simp [h])
        rwa [hz] at this
      · simp only [Option.map_some, add_none]
        refine this b _ ?_
        have := hpk (o + l * sz) (.inl hz) (by rcases hcase with h | h | h <;> simp [h])
        rwa [hz] at this
    · have hsz : sz' = sz := by
        rcases head_sz hse hr hh with h | h
        · subst h; simp at h3; omega
        · exact h
      subst hsz
      have hne : ¬ m.getD cap = l := by omega
      simp only [hne, if_false, Option.map_some, add_none]
      exact sub_slice cv hse hpin hr h3 h2 hle (hpk _ (.inr rfl) (by rcases hcase with h | h | h <;> simp [h]))

theorem slice_own_ok (g : Good P G T M h w) {t e : TypeId} {sz s len : Nat} {c : Value} {k : IntKind} {n : Int}
    (hu : P.underlying t = some (.slice e)) (hs : sizeT P e = some sz) (hx : VRel P G M (.oslice s len) c) (h0 : 0 ≤ n) (hn : n ≤ len) :
    SR P G T W M w (.oslice s n.toNat) h (Instr.sliceAt t c none (some (.int k n)) none) := by
  cases hx with
  | @oslice _ _ b o cap ho hcap =>
    have h1 : (Instr.sliceBounds true len cap none (some (.int k n)) none).run P w = .ok (0, n.toNat, cap) w := by
      simp only [Instr.sliceBounds, Sem.run_bind, Sem.run_pure, Result.andThen_ok]
      rw [bound_ok rfl h0 (by omega)]
      simp only [Result.andThen_ok]
    refine .pure g (slice_sl_run hu hs h1) ?_
    have e : (if cap = 0 then some (⟨b, o, none⟩ : Addr) else (some ⟨b, o, none⟩ : Option Addr).map (·.add (0 * sz))) = some ⟨b, o, none⟩ := by
      split
      · rfl
      · simp [add_none]
    rw [e]
    simp only [Nat.sub_zero]
    exact .oslice ho (by omega)

end
end Am
end
section
namespace Am
open Go

section
variable {P : Program} {G : Nat} {T W : Loc → Prop} {M M' : Mp} {h h' : Heap} {w w' : World}

theorem equal_def (t : TypeId) (x y : Value) : Op.equal t x y = Op.equalIn (9999 + 1) t x y := rfl

theorem beq_data (a b : ByteArray) : (a == b) = (a.data.toList == b.data.toList) := by
  cases a with | mk a => cases b with | mk b =>
  show (a == b) = (a.toList == b.toList)
  simp

/-- the kind of a type's values -/
def KindOf (P : Program) (t : TypeId) (k : Nat) : Prop :=
  (k = 0 ∧ P.underlying t = some .bool) ∨ (k = 1 ∧ ∃ j, P.underlying t = some (.int j)) ∨ (k = 2 ∧ P.underlying t = some .string)

theorem eqK_run {n k : Nat} {t : TypeId} {x y : AV} {a b : Value} {r : Bool} (hk : KindOf P t k) (hx : VRel P G M x a) (hy : VRel P G M y b) (e : eqK k x y = some r) :
    (Op.equalIn (n + 1) t a b).run P w = .ok r w := by
  rcases hk with ⟨rfl, hu⟩ | ⟨rfl, j, hu⟩ | ⟨rfl, hu⟩
  · cases x <;> cases y <;> simp only [eqK, reduceCtorEq, Option.some.injEq] at e
    subst e
    cases vr_bool hx; cases vr_bool hy
    simp only [Op.equalIn, Sem.run_bind, run_underlying hu, Result.andThen_ok, Sem.run_pure]
  · cases x <;> cases y <;> simp only [eqK, reduceCtorEq] at e
    split at e
    · rename_i hk; subst hk
      simp only [Option.some.injEq] at e; subst e
      cases vr_int hx; cases vr_int hy
      simp only [Op.equalIn, Sem.run_bind, run_underlying hu, Result.andThen_ok, if_true, Sem.run_pure]
    · cases e
  · cases x <;> cases y <;> simp only [eqK, reduceCtorEq, Option.some.injEq] at e
    subst e
    obtain ⟨a', rfl, rfl⟩ := vr_str hx
    obtain ⟨b', rfl, rfl⟩ := vr_str hy
    simp only [Op.equalIn, Sem.run_bind, run_underlying hu, Result.andThen_ok, Sem.run_pure, beq_data]

theorem eqK_bool {x y : AV} {r : Bool} (e : eqK 0 x y = some r) : ∃ p q, x = .bool p ∧ y = .bool q := by
  cases x <;> cases y <;> simp only [eqK, reduceCtorEq] at e
  exact ⟨_, _, rfl, rfl⟩

theorem eqCells_app : ∀ (ks : List Nat) (a c : List AV) (ls : List Nat) (b d : List AV), ks.length = a.length → ks.length = c.length →
    eqCells (ks ++ ls) (a ++ b) (c ++ d) = match eqCells ks a c, eqCells ls b d with
      | some p, some q => some (p && q)
      | _, _ => none
  | [], [], [], ls, b, d, _, _ => by
    simp only [List.nil_append, eqCells]
    cases eqCells ls b d <;> simp
  | k :: ks, x :: a, y :: c, ls, b, d, h1, h2 => by
    simp only [List.cons_append, eqCells]
    rw [eqCells_app ks a c ls b d (by simpa using h1) (by simpa using h2)]
    cases eqK k x y with
    | none => rfl
    | some r =>
      cases r <;> cases eqCells ks a c <;> cases eqCells ls b d <;> simp

theorem primCells_agg {n : Nat} {t : TypeId} {ks : List Nat} (e : primCells P n t = some ks) :
    (∃ k, ks = [k] ∧ KindOf P t k ∧ isAggT P t = false) ∨ (∃ fs m, n = m + 1 ∧ P.underlying t = some (.struct fs) ∧ P.stoodInHeld t = false ∧ isAggT P t = true ∧ walkF P (primCells P m) fs.toList 0 = some ks) := by
  cases n with
  | zero => simp [primCells] at e
  | succ n =>
    simp only [primCells] at e
    split at e
    · rename_i hu; simp only [Option.some.injEq] at e; subst e
      exact .inl ⟨0, rfl, .inl ⟨rfl, hu⟩, by simp [isAggT, hu]⟩
    · rename_i hu; simp only [Option.some.injEq] at e; subst e
      exact .inl ⟨1, rfl, .inr (.inl ⟨rfl, _, hu⟩), by simp [isAggT, hu]⟩
    · rename_i hu; simp only [Option.some.injEq] at e; subst e
      exact .inl ⟨2, rfl, .inr (.inr ⟨rfl, hu⟩), by simp [isAggT, hu]⟩
    · rename_i fs hu
      split at e
      · cases e
      · rename_i hst
        exact .inr ⟨fs, n, rfl, hu, by simpa using hst, by simp [isAggT, hu], e⟩
    · cases e

theorem eqcells_run (w : World) : ∀ (n : Nat) (t : TypeId) (ks : List Nat) (cs ds : List AV) (vs us : Array Value) (off : Nat) (r : Bool) (m : Nat),
    primCells P n t = some ks → sizeT P t = some ks.length → LRel P G M cs vs → LRel P G M ds us → off + ks.length ≤ cs.length → off + ks.length ≤ ds.length →
    eqCells ks ((cs.drop off).take ks.length) ((ds.drop off).take ks.length) = some r →
    ∃ a b, (part t vs off).run P w = .ok a w ∧ (part t us off).run P w = .ok b w ∧ (Op.equalIn (n + m) t a b).run P w = .ok r w := by
  intro n
  induction n with
  | zero => intro t ks cs ds vs us off r m h; simp [primCells] at h
  | succ n ih =>
    intro t ks cs ds vs us off r m hp hs hl hl' h1 h2 he
    obtain ⟨d, hd⟩ := sizeT_und hs
    rcases primCells_agg hp with ⟨k, rfl, hk, ha⟩ | ⟨fs, m', hm, hu, hst, ha, hw⟩
    · simp only [List.length_cons, List.length_nil, Nat.zero_add] at h1 h2 he
      have e1 : (cs.drop off).take 1 = [cs.getD off .junk] := by
        rw [List.drop_eq_getElem_cons (by omega : off < cs.length), List.take_succ_cons, List.take_zero, List.getD_eq_getElem?_getD, List.getElem?_eq_getElem (by omega : off < cs.length)]
        rfl
      have e2 : (ds.drop off).take 1 = [ds.getD off .junk] := by
        rw [List.drop_eq_getElem_cons (by omega : off < ds.length), List.take_succ_cons, List.take_zero, List.getD_eq_getElem?_getD, List.getElem?_eq_getElem (by omega : off < ds.length)]
        rfl
      rw [e1, e2] at he
      have he' : eqK k (cs.getD off .junk) (ds.getD off .junk) = some r := by
        generalize cs.getD off .junk = x at he
        generalize ds.getD off .junk = y at he
        simp only [eqCells] at he
        cases h : eqK k x y with
        | none => simp [h] at he
        | some q => cases q <;> simp [h] at he <;> simp [he]
      have v1 : off < vs.size := by rw [hl.1]; omega
      have v2 : off < us.size := by rw [hl'.1]; omega
      have x1 := hl.2 off (by omega)
      have x2 := hl'.2 off (by omega)
      refine ⟨vs.getD off undef, us.getD off undef, ?_, ?_, ?_⟩
      · simp only [part, Sem.run_bind, isAgg_run hd, Result.andThen_ok, ha, Bool.false_eq_true, if_false, v1, Array.getElem?_eq_getElem]
        simp [Array.getD, v1]
      · simp only [part, Sem.run_bind, isAgg_run hd, Result.andThen_ok, ha, Bool.false_eq_true, if_false, v2, Array.getElem?_eq_getElem]
        simp [Array.getD, v2]
      · rw [show n + 1 + m = (n + m) + 1 by omega]
        exact eqK_run hk x1 x2 he'
    · cases hm
      refine ⟨.agg (vs.extract off (off + ks.length)), .agg (us.extract off (off + ks.length)), ?_, ?_, ?_⟩
      · simp only [part, Sem.run_bind, isAgg_run hd, Result.andThen_ok, ha, if_true, sizeT_run hs, Sem.run_pure]
      · simp only [part, Sem.run_bind, isAgg_run hd, Result.andThen_ok, ha, if_true, sizeT_run hs, Sem.run_pure]
      · rw [show n + 1 + m = (n + m) + 1 by omega]
        have hf : P.fieldsOf t = fs := by simp [Program.fieldsOf, hu]
        rw [run_equalIn_struct (P := P) w (n + m) t _ _ (by rw [hf]; exact hu) hst, hf]
        have l1 := hl.extract off ks.length h1
        have l2 := hl'.extract off ks.length h2
        generalize hcs : (cs.drop off).take ks.length = cs' at l1 he
        generalize hds : (ds.drop off).take ks.length = ds' at l2 he
        generalize vs.extract off (off + ks.length) = vs' at l1
        generalize us.extract off (off + ks.length) = us' at l2
        have lc : cs'.length = ks.length := by subst hcs; simp; omega
        have ld : ds'.length = ks.length := by subst hds; simp; omega
        have loop : ∀ (fl : List Field) (o : Nat) (kl : List Nat) (q : Bool), walkF P (primCells P n) fl o = some kl → o + kl.length = ks.length →
            eqCells kl (cs'.drop o) (ds'.drop o) = some q → (Op.eqFields (n + m) vs' us' fl).run P w = .ok q w := by
          intro fl
          induction fl with
          | nil =>
            intro o kl q hwk hlen hq
            simp only [walkF, Option.some.injEq] at hwk; subst hwk
            simp at hlen
            rw [List.drop_eq_nil_of_le (by omega), List.drop_eq_nil_of_le (by omega)] at hq
            simp only [eqCells, Option.some.injEq] at hq; subst hq
            simp [Op.eqFields]
          | cons f fl ihf =>
            intro o kl q hwk hlen hq
            simp only [walkF] at hwk
            split at hwk
            · cases hwk
            · rename_i hno
              have hn1 : f.name ≠ "_" := fun h => hno (.inl h)
              have hn2 : f.offset = o := Classical.byContradiction fun h => hno (.inr h)
              cases hg : primCells P n f.type with
              | none => simp [hg] at hwk
              | some k1 =>
                simp only [hg] at hwk
                split at hwk
                · rename_i hsz
                  cases hwf : walkF P (primCells P n) fl (o + k1.length) with
                  | none => simp [hwf] at hwk
                  | some k2 =>
                    simp [hwf] at hwk
                    subst hwk
                    simp at hlen
                    have s1 : cs'.drop o = (cs'.drop o).take k1.length ++ cs'.drop (o + k1.length) := by
                      rw [← List.drop_drop, List.take_append_drop]
                    have s2 : ds'.drop o = (ds'.drop o).take k1.length ++ ds'.drop (o + k1.length) := by
                      rw [← List.drop_drop, List.take_append_drop]
                    rw [s1, s2, eqCells_app _ _ _ _ _ _ (by simp; omega) (by simp; omega)] at hq
                    cases q1 : eqCells k1 ((cs'.drop o).take k1.length) ((ds'.drop o).take k1.length) with
                    | none => simp [q1] at hq
                    | some r1 =>
                      cases q2 : eqCells k2 (cs'.drop (o + k1.length)) (ds'.drop (o + k1.length)) with
                      | none => simp [q1, q2] at hq
                      | some r2 =>
                        simp [q1, q2] at hq
                        obtain ⟨a, b, p1, p2, p3⟩ := ih f.type k1 cs' ds' vs' us' o r1 m hg hsz l1 l2 (by omega) (by omega) q1
                        have p4 := ihf (o + k1.length) k2 r2 hwf (by omega) q2
                        simp only [Op.eqFields, hn1, ne_eq, not_false_eq_true, if_true, Sem.run_bind, hn2, p1, p2, p3, Result.andThen_ok]
                        cases r1
                        · simp at hq; subst hq; simp
                        · simp at hq; subst hq; simpa using p4
                · cases hwk
        exact loop fs.toList 0 ks r hw (by simp) (by simpa using he)

theorem noView_ok {b o : Nat} (k : BoxObj w b) : (noView ⟨b, o, none⟩).run P w = .ok () w := by
  obtain ⟨_, x, hx, hk⟩ := k
  cases x <;> simp only at hk <;> simp [noView, viewAt, World.shape?, getObj, Sem.run, hx]

theorem stringish_no {b o : Nat} (k : BoxObj w b) : (stringish ⟨b, o, none⟩).run P w = .ok false w := by
  obtain ⟨hf, x, hx, hk⟩ := k
  simp only [stringish, Sem.run_bind, run_frozen, hf, Result.andThen_ok, Bool.false_eq_true, if_false, run_shape, World.shape?, hx]
  cases x <;> simp only at hk <;> simp [hf]

theorem sameAddr_ok (k : MOk G M w) {n m b c o p : Nat} (hn : M.box n = some b) (hm : M.box m = some c) :
    (sameAddr ⟨b, o, none⟩ ⟨c, p, none⟩).run P w = .ok (n == m && o == p) w := by
  by_cases e : b = c
  · subst e
    have : n = m := k.boxinj n m b hn hm
    subst this
    simp only [sameAddr, beq_self_eq_true, if_true, Sem.run_pure, Bool.true_and]
    congr 1
    by_cases h : o = p
    · subst h; simp
    · have : (⟨b, o, none⟩ : Addr) ≠ ⟨b, p, none⟩ := fun h' => h (by cases h'; rfl)
      rw [beq_eq_false_iff_ne.2 this, beq_eq_false_iff_ne.2 h]
  · have hnm : n ≠ m := by rintro rfl; rw [hn] at hm; cases hm; exact e rfl
    have e1 : (b == c) = false := beq_eq_false_iff_ne.2 e
    have e2 : (n == m) = false := beq_eq_false_iff_ne.2 hnm
    have f1 := (k.boxobj n b hn).1 o
    simp only [sameAddr, e1, Bool.false_eq_true, if_false, Sem.run_bind, run_frozen, f1, Result.andThen_ok, Bool.false_and, noView_ok (k.boxobj n b hn), noView_ok (k.boxobj m c hm),
      mayBeOne, stringish_no (k.boxobj n b hn), stringish_no (k.boxobj m c hm), Sem.run_pure, Bool.or_self, e2]
    rfl

theorem sameSent_ok (k : MOk G M w) {i j : Nat} {a b : Addr} (hi : M.sent i = some a) (hj : M.sent j = some b) : (sameAddr a b).run P w = .ok (i == j) w := by
  by_cases e : i = j
  · subst e
    rw [hi] at hj; cases hj
    simp [sameAddr]
  · have hab : a ≠ b := by rintro rfl; exact e (k.sents.inj i j a hi hj)
    obtain ⟨ca, ta, ha⟩ := k.sents.obj i a hi
    obtain ⟨cb, tb, hb⟩ := k.sents.obj j b hj
    rw [beq_eq_false_iff_ne.2 e]
    exact run_sameAddr_other w hab ha hb

theorem eq_ptr_run (k : MOk G M w) {n : Nat} {t e : TypeId} {sz : Nat} {x y : AV} {a b : Value} {r : Bool} (hu : P.underlying t = some (.pointer e)) (hs : sizeT P e = some sz) (h0 : sz ≠ 0)
    (hx : VRel P G M x a) (hy : VRel P G M y b) (hr : eqPtr x y = some r) : (Op.equalIn (n + 1) t a b).run P w = .ok r w := by
  unfold eqPtr at hr
  split at hr
  · cases hx; cases hy
    simp only [Option.some.injEq] at hr; subst hr
    simp [Op.equalIn, run_underlying hu]
  · cases hx; cases hy
    simp only [Option.some.injEq] at hr; subst hr
    simp [Op.equalIn, run_underlying hu]
  · cases hx; cases hy
    simp only [Option.some.injEq] at hr; subst hr
    simp [Op.equalIn, run_underlying hu]
  · cases hx with | ptr h1 => cases hy with | ptr h2 =>
    simp only [Option.some.injEq] at hr; subst hr
    simp only [Op.equalIn, Sem.run_bind, run_underlying hu, Result.andThen_ok, sizeT_run hs]
    rw [if_pos h0, sameAddr_ok k h1 h2]
  · cases hx; cases hy
    simp only [Option.some.injEq] at hr; subst hr
    simp [Op.equalIn, run_underlying hu]
  · cases hx; cases hy
    simp only [Option.some.injEq] at hr; subst hr
    simp [Op.equalIn, run_underlying hu]
  · cases hx with | sent h1 => cases hy with | sent h2 =>
    simp only [Option.some.injEq] at hr; subst hr
    simp only [Op.equalIn, Sem.run_bind, run_underlying hu, Result.andThen_ok, sizeT_run hs]
    rw [if_pos h0, sameSent_ok k h1 h2]
  · cases hr

theorem vr_ptr_form {x y : AV} {a b : Value} {r : Bool} (hx : VRel P G M x a) (hy : VRel P G M y b) (hr : eqPtr x y = some r) :
    (∃ p, a = .pointer p) ∧ ∃ q, b = .pointer q := by
  unfold eqPtr at hr
  split at hr <;> first | (cases hr; done) | (cases hx; cases hy; exact ⟨⟨_, rfl⟩, ⟨_, rfl⟩⟩)

theorem eq_ptr_ok (g : Good P G T M h w) {t e : TypeId} {sz : Nat} {x y : AV} {a b : Value} {r : Bool} (hu : P.underlying t = some (.pointer e)) (hs : sizeT P e = some sz) (h0 : sz ≠ 0)
    (hx : VRel P G M x a) (hy : VRel P G M y b) (hr : eqPtr x y = some r) (neg : Bool) (x' y' : Operand) :
    SR P G T W M w (.bool (r != neg)) h (do eqGuard (if neg then .neq else .eql) t x' y' a b; binOp (if neg then .neq else .eql) t a b) := by
  have h1 := eq_ptr_run (n := 9999) g.mok hu hs h0 hx hy hr
  obtain ⟨⟨p, rfl⟩, ⟨q, rfl⟩⟩ := vr_ptr_form hx hy hr
  cases neg
  · refine .pure g (c := .bool r) ?_ (by simpa using VRel.bool)
    simp only [eqGuard, binOp, Sem.run_bind, Bool.false_eq_true, if_false, Sem.run_pure, Result.andThen_ok, equal_def, h1, Bool.not_true]
  · refine .pure g (c := .bool (!r)) ?_ (by simpa using VRel.bool)
    simp only [eqGuard, binOp, Sem.run_bind, if_true, Sem.run_pure, Result.andThen_ok, equal_def, h1, Bool.not_true, Bool.false_eq_true, if_false]

theorem ptrT_spec {t : TypeId} (ht : t ∈ ptrT P) : ∃ i e sz, P.info? t = some i ∧ P.underlying t = some (.pointer e) ∧ i.comparable = true ∧ sizeT P e = some sz ∧ sz ≠ 0 := by
  simp only [ptrT, List.mem_filter] at ht
  obtain ⟨_, ht⟩ := ht
  split at ht
  · rename_i i e hi hu
    cases hs : sizeT P e with
    | none => simp [hs] at ht
    | some n =>
      simp [hs] at ht
      exact ⟨i, e, n, hi, hu, ht.1.1, hs, ht.2⟩
  · cases ht

theorem eq_nil_run {n : Nat} {t : TypeId} {ms : Array (String × TypeId)} {a b : Value} {r : Bool} (hu : P.underlying t = some (.interface ms))
    (hab : (a = .nilIface ∧ b = .nilIface ∧ r = true) ∨ (a = .nilIface ∧ (∃ u v, b = .iface u v) ∧ r = false) ∨ ((∃ u v, a = .iface u v) ∧ b = .nilIface ∧ r = false)) :
    (Op.equalIn (n + 1) t a b).run P w = .ok r w := by
  rcases hab with ⟨rfl, rfl, rfl⟩ | ⟨rfl, ⟨_, _, rfl⟩, rfl⟩ | ⟨⟨_, _, rfl⟩, rfl, rfl⟩ <;>
    simp only [Op.equalIn, Sem.run_bind, run_underlying hu, Result.andThen_ok, Sem.run_pure]

theorem eq_iface_run {n : Nat} (k : MOk G M w) {t u v : TypeId} {ms : Array (String × TypeId)} {x y : AV} {a b : Value} {r : Bool} (hu : P.underlying t = some (.interface ms))
    (hx : VRel P G M x a) (hy : VRel P G M y b) (hr : (if u = v then (if (ptrT P).contains u then eqPtr x y else none) else some false) = some r) :
    (Op.equalIn (n + 1 + 1) t (.iface u a) (.iface v b)).run P w = .ok r w := by
  split at hr
  · rename_i htu; subst htu
    split at hr
    · rename_i hin
      have hin : u ∈ ptrT P := by simpa using hin
      obtain ⟨i, e, sz, hi, hu', hc, hs, h0⟩ := ptrT_spec hin
      have h1 := eq_ptr_run (n := n) k hu' hs h0 hx hy hr
      rw [Op.equalIn]
      simp only [Sem.run_bind, run_underlying hu, Result.andThen_ok, ne_eq, not_true_eq_false, if_false, typeInfo, run_program, hi, Sem.run_pure, hc, Bool.not_true,
        Bool.false_eq_true, h1]
    · cases hr
  · rename_i htu
    simp only [Option.some.injEq] at hr; subst hr
    rw [Op.equalIn]
    simp only [Sem.run_bind, run_underlying hu, Result.andThen_ok, ne_eq, htu, not_false_eq_true, if_true, Sem.run_pure]

theorem eqGuard_nil {t : TypeId} {x' y' : Operand} (hl : (isLit x' || isLit y') = true) (op : BinOp) : (eqGuard op t x' y' .nilIface .nilIface).run P w = .ok () w := by
  cases x' <;> cases y' <;> simp [isLit] at hl <;> cases op <;> rfl

theorem eqGuard_other {t : TypeId} {x' y' : Operand} {a b : Value} (h1 : ¬ (a = .nilIface ∧ b = .nilIface)) (h2 : ∀ xs, a ≠ .agg xs) (op : BinOp) :
    (eqGuard op t x' y' a b).run P w = .ok () w := by
  have : ∀ op, op = .eql ∨ op = .neq → (eqGuard op t x' y' a b).run P w = .ok () w := by
    intro op ho
    rcases ho with rfl | rfl <;>
    · simp only [eqGuard, Bool.not_true, Bool.false_eq_true, if_false]
      split
      · exact absurd ⟨rfl, rfl⟩ h1
      · exact absurd rfl (h2 _)
      · rfl
  cases op <;> first | exact this _ (.inl rfl) | exact this _ (.inr rfl) | rfl

theorem equal_def2 (t : TypeId) (x y : Value) : Op.equal t x y = Op.equalIn (9998 + 1 + 1) t x y := rfl

theorem eq_finish (g : Good P G T M h w) {t : TypeId} {a b : Value} {r neg : Bool} {x' y' : Operand} (k1 : ∀ op, (eqGuard op t x' y' a b).run P w = .ok () w)
    (k3 : (Op.equal t a b).run P w = .ok r w) (k6 : (binOp .eql t a b) = (do pure (.bool (← Op.equal t a b)))) (k7 : (binOp .neq t a b) = (do pure (.bool (!(← Op.equal t a b))))) :
    SR P G T W M w (.bool (r != neg)) h (do eqGuard (if neg then .neq else .eql) t x' y' a b; binOp (if neg then .neq else .eql) t a b) := by
  cases neg
  · refine .pure g (c := .bool r) ?_ (by simpa using VRel.bool)
    simp only [Bool.false_eq_true, if_false, Sem.run_bind, k1, Result.andThen_ok, k6, k3, Sem.run_pure]
  · refine .pure g (c := .bool (!r)) ?_ (by simpa using VRel.bool)
    simp only [if_true, Sem.run_bind, k1, Result.andThen_ok, k7, k3, Sem.run_pure]

theorem eq_iface_ok (g : Good P G T M h w) {t : TypeId} {ms : Array (String × TypeId)} {x y : AV} {a b : Value} {r : Bool} (hu : P.underlying t = some (.interface ms))
    (hx : VRel P G M x a) (hy : VRel P G M y b) (x' y' : Operand) (hr : eqIface (ptrT P) (isLit x' || isLit y') x y = some r) (neg : Bool) :
    SR P G T W M w (.bool (r != neg)) h (do eqGuard (if neg then .neq else .eql) t x' y' a b; binOp (if neg then .neq else .eql) t a b) := by
  unfold eqIface at hr
  split at hr
  · split at hr
    · rename_i hl
      cases hx; cases hy
      simp only [Option.some.injEq] at hr; subst hr
      exact eq_finish g (eqGuard_nil hl) (by rw [equal_def]; exact eq_nil_run hu (.inl ⟨rfl, rfl, rfl⟩)) rfl rfl
    · cases hr
  · cases hx; cases hy
    simp only [Option.some.injEq] at hr; subst hr
    exact eq_finish g (eqGuard_other (by simp) (by simp)) (by rw [equal_def]; exact eq_nil_run hu (.inr (.inl ⟨rfl, ⟨_, _, rfl⟩, rfl⟩))) rfl rfl
  · cases hx; cases hy
    simp only [Option.some.injEq] at hr; subst hr
    exact eq_finish g (eqGuard_other (by simp) (by simp)) (by rw [equal_def]; exact eq_nil_run hu (.inr (.inr ⟨⟨_, _, rfl⟩, rfl, rfl⟩))) rfl rfl
  · cases hx with | iface hx => cases hy with | iface hy =>
    exact eq_finish g (eqGuard_other (by simp) (by simp)) (by rw [equal_def2]; exact eq_iface_run g.mok hu hx hy hr) rfl rfl
  · cases hr

theorem eq_cells_ok (g : Good P G T M h w) {t : TypeId} {fs : Array Field} {ks : List Nat} {xs ys : List AV} {a b : Value} {r : Bool} (hu : P.underlying t = some (.struct fs))
    (hp : primCells P 6 t = some ks) (hs : sizeT P t = some ks.length) (hg : P.eqGuardType P.depth t = false) (hx : VRel P G M (.agg xs) a) (hy : VRel P G M (.agg ys) b)
    (he : eqCells ks xs ys = some r) (neg : Bool) (x' y' : Operand) :
    SR P G T W M w (.bool (r != neg)) h (do eqGuard (if neg then .neq else .eql) t x' y' a b; binOp (if neg then .neq else .eql) t a b) := by
  have hlen : ∀ (ks : List Nat) (xs ys : List AV) (r : Bool), eqCells ks xs ys = some r → xs.length = ks.length ∧ ys.length = ks.length := by
    intro ks
    induction ks with
    | nil =>
      intro xs ys r h
      cases xs <;> cases ys <;> simp [eqCells] at h
      exact ⟨rfl, rfl⟩
    | cons k ks ih =>
      intro xs ys r h
      cases xs <;> cases ys <;> simp only [eqCells, reduceCtorEq] at h
      rename_i x xs y ys
      cases hk : eqK k x y with
      | none => simp [hk] at h
      | some q =>
        cases hr : eqCells ks xs ys with
        | none => cases q <;> simp [hk, hr] at h
        | some r' => have := ih xs ys r' hr; simp; omega
  obtain ⟨hl1, hl2⟩ := hlen _ _ _ _ he
  cases hx with | agg c1 c2 => cases hy with | agg d1 d2 =>
  rename_i vs us
  obtain ⟨a, b, p1, p2, p3⟩ := eqcells_run (P := P) (G := G) (M := M) w 6 t ks xs ys vs us 0 r 9994 hp hs ⟨c1, c2⟩ ⟨d1, d2⟩ (by omega) (by omega)
    (by rw [List.drop_zero, List.drop_zero, List.take_of_length_le (by omega), List.take_of_length_le (by omega)]; exact he)
  have ea : a = .agg vs ∧ b = .agg us := by
    have hd : isAggT P t = true := by simp [isAggT, hu]
    simp only [part, Sem.run_bind, isAgg_run hu, Result.andThen_ok, hd, if_true, sizeT_run hs, Sem.run_pure, Result.ok.injEq] at p1 p2
    rw [← p1.1, ← p2.1]
    have f1 : vs.size = ks.length := by omega
    have f2 : us.size = ks.length := by omega
    refine ⟨congrArg Value.agg ?_, congrArg Value.agg ?_⟩
    · rw [← f1]; simp
    · rw [← f2]; simp
  obtain ⟨rfl, rfl⟩ := ea
  refine eq_finish g (fun op => ?_) p3 rfl rfl
  have : ∀ op, op = .eql ∨ op = .neq → (eqGuard op t x' y' (.agg vs) (.agg us)).run P w = .ok () w := by
    intro op ho
    rcases ho with rfl | rfl <;> simp only [eqGuard, Bool.not_true, Bool.false_eq_true, if_false, Sem.run_bind, run_program, Result.andThen_ok, hg, Bool.not_false, if_true, Sem.run_pure]
  cases op <;> first | exact this _ (.inl rfl) | exact this _ (.inr rfl) | rfl

theorem eq_bool_ok (g : Good P G T M h w) {t : TypeId} {x y : AV} {a b : Value} {r : Bool} (hu : P.underlying t = some .bool) (hx : VRel P G M x a) (hy : VRel P G M y b)
    (e : eqK 0 x y = some r) (neg : Bool) (x' y' : Operand) :
    SR P G T W M w (.bool (r != neg)) h (do eqGuard (if neg then .neq else .eql) t x' y' a b; binOp (if neg then .neq else .eql) t a b) := by
  have h1 := eqK_run (n := 9999) (w := w) (.inl ⟨rfl, hu⟩) hx hy e
  obtain ⟨p, q, rfl, rfl⟩ := eqK_bool e
  cases vr_bool hx; cases vr_bool hy
  exact eq_finish g (eqGuard_other (by simp) (by simp)) (by rw [equal_def]; exact h1) rfl rfl

end
end Am
end
section
namespace Am
open Go

section
variable {P : Program} {G : Nat} {T W : Loc → Prop} {M M' : Mp} {h h' : Heap} {w w' : World}

theorem conv_int_ok (g : Good P G T M h w) {src dst : TypeId} {k0 k : IntKind} {k1 : IntKind} {n : Int} {c : Value} (hs : P.underlying src = some (.int k0))
    (hd : P.underlying dst = some (.int k)) (hx : VRel P G M (.int k1 n) c) : SR P G T W M w (.int k (k.wrap n)) h (convert src dst c) := by
  cases vr_int hx
  refine .pure g (c := .int k (k.wrap n)) ?_ .int
  simp only [convert, Sem.run_bind, run_underlying hs, run_underlying hd, Result.andThen_ok, Conv.intToInt, Sem.run_pure]

theorem conv_i2s_ok (g : Good P G T M h w) {src dst : TypeId} {k0 : IntKind} {k1 : IntKind} {n : Int} {c : Value} (hs : P.underlying src = some (.int k0))
    (hd : P.underlying dst = some .string) (hx : VRel P G M (.int k1 n) c) : SR P G T W M w (.str (encodeA n)) h (convert src dst c) := by
  cases vr_int hx
  refine .pure g (c := .string (Utf8.encode n)) ?_ (.str rfl)
  simp only [convert, Sem.run_bind, run_underlying hs, run_underlying hd, Result.andThen_ok, Conv.intToString, Sem.run_pure]

theorem conv_same_ok (g : Good P G T M h w) {src dst : TypeId} {s : List UInt8} {c : Value} (hs : P.underlying src = some .string)
    (hd : P.underlying dst = some .string) (hx : VRel P G M (.str s) c) : SR P G T W M w (.str s) h (convert src dst c) := by
  obtain ⟨a, rfl, rfl⟩ := vr_str hx
  refine .pure g (c := .string a) ?_ (.str rfl)
  simp only [convert, Sem.run_bind, run_underlying hs, run_underlying hd, Result.andThen_ok, Sem.run_pure]

theorem unbytes_get : ∀ {xs : List AV} {s : List UInt8}, unbytes xs = some s → xs.length = s.length ∧ ∀ i, i < xs.length → ∃ n, xs.getD i .junk = .int .u8 n ∧ s.getD i 0 = UInt8.ofNat n.toNat ∧ n = (s.getD i 0).toNat
  | [], s, e => by simp [unbytes] at e; subst e; exact ⟨rfl, fun i hi => by simp at hi⟩
  | x :: xs, s, e => by
    simp only [unbytes] at e
    cases h1 : unbyte x with
    | none => simp [h1] at e
    | some b =>
      cases h2 : unbytes xs with
      | none => simp [h1, h2] at e
      | some bs =>
        simp [h1, h2] at e
        subst e
        obtain ⟨k1, k2⟩ := unbytes_get h2
        refine ⟨by simp [k1], fun i hi => ?_⟩
        cases i with
        | zero =>
          cases x <;> simp only [unbyte, reduceCtorEq] at h1
          rename_i k n
          cases k <;> simp only [unbyte, reduceCtorEq] at h1
          split at h1
          · rename_i hn
            simp only [Option.some.injEq] at h1
            subst h1
            refine ⟨n, by simp, by simp, ?_⟩
            simp only [List.getD_cons_zero, UInt8.toNat_ofNat']
            omega
          · cases h1
        | succ i =>
          obtain ⟨n, k3, k4, k5⟩ := k2 i (by simpa using hi)
          exact ⟨n, by simpa using k3, by simpa using k4, by simpa using k5⟩

theorem push_foldl : ∀ (ns : List Int) (r : ByteArray), (ns.foldl (fun r n => r.push (UInt8.ofNat n.toNat)) r).data.toList = r.data.toList ++ ns.map fun n => UInt8.ofNat n.toNat
  | [], r => by simp
  | n :: ns, r => by
    simp only [List.foldl_cons]
    rw [push_foldl ns]
    simp [ByteArray.push]

theorem conv_b2s_ok (g : Good P G T M h w) {src dst e : TypeId} {xs : List AV} {p : Perm} {s : List UInt8} {c : Value} (hs : P.underlying src = some (.slice e))
    (he : P.underlying e = some (.int .u8)) (hd : P.underlying dst = some .string) (hx : VRel P G M (.slice xs p) c) (hb : unbytes xs = some s) :
    SR P G T W M w (.str s) h (convert src dst c) := by
  cases hx with
  | sliceNil _ =>
    simp [unbytes] at hb; subst hb
    refine .pure g (c := .string .empty) ?_ (.str rfl)
    rw [run_convert_bytes_string w src dst e none 0 0 hs he hd]
    rfl
  | @slice _ _ b o cap sz cv hse hpin hr hcap hperm =>
    obtain ⟨hl, hg⟩ := unbytes_get hb
    let f : Nat → Int := fun i => match xs.getD i .junk with | .int _ n => n | _ => 0
    have hcv : ∀ i, i < xs.length → cv i = .int .u8 (f i) := by
      intro i hi
      obtain ⟨n, h1, _, _⟩ := hg i hi
      have := hr i hi
      rw [h1] at this
      rw [vr_int this]
      simp only [f, h1]
    have hcell : (loadCells ⟨b, o, none⟩ xs.length).run P w = .ok (((List.range' 0 xs.length).map f).map (Value.int .u8)).toArray w := by
      rw [run_loadCells (f := fun i => .int .u8 (f i))]
      · simp
      · intro j hj
        have h1 := hcv j hj
        obtain ⟨h2, _⟩ := hse j hj
        have : sz = 1 := by rw [← h2, h1]; rfl
        subst this
        have := g.mok.pins _ _ _ (hpin j hj 0 (by omega))
        rw [h1] at this
        simpa [Value.cells, Array.getD] using this
    refine .pure g (c := .string _) (by rw [run_convert_bytes_string w src dst e _ _ _ hs he hd]; exact run_bytesToString w _ _ _ _ hcell) (.str ?_)
    rw [push_foldl]
    simp only [List.map_map]
    apply List.ext_getElem
    · simp [hl]
    · intro i h1 h2
      simp at h1
      obtain ⟨n, h3, h4, _⟩ := hg i (by omega)
      have h5 : s.getD i 0 = s[i] := by simp [List.getD_eq_getElem?_getD, h2]
      rw [← h5, h4]
      have h6 : f i = n := by simp only [f, h3]
      simp [h6]

theorem extract_ok (g : Good P G T M h w) {vs : List AV} {v : AV} {i : Nat} {c : Value} (hx : VRel P G M (.tup vs) c) (hv : vs[i]? = some v) :
    SR P G T W M w v h (Instr.extract c i) := by
  cases hx with
  | @tup _ us hl hc =>
    obtain ⟨hlt, hv⟩ := List.getElem?_eq_some_iff.1 hv
    have := hc i hlt
    have h2 : i < us.size := by omega
    simp only [List.getD_eq_getElem?_getD, List.getElem?_eq_getElem hlt, Option.getD_some, hv, Array.getD, h2, dif_pos] at this
    refine .pure g (c := us[i]) ?_ this
    simp only [Instr.extract, Array.getElem?_eq_getElem h2, Sem.run_pure]

theorem mkif_ok (g : Good P G T M h w) {t : TypeId} {d : TypeDesc} {x : AV} {c : Value} (hu : P.underlying t = some d) (hd : ∀ ms, d ≠ .interface ms) (hx : VRel P G M x c) :
    SR P G T W M w (.iface t x) h (Instr.makeInterface t c) := by
  refine .pure g (c := .iface t c) ?_ (.iface hx)
  simp only [Instr.makeInterface, Sem.run_bind, run_underlying hu, Result.andThen_ok]
  try (cases d <;> first | rfl | exact absurd rfl (hd _))

theorem info_lt {t : TypeId} (ht : t < P.types.size) : P.info? t = some P.types[t] := by
  simp [Tables.info?, ht]

theorem mem_implT {want : Array (String × TypeId)} {t : TypeId} {i : TypeInfo} (ht : t < P.types.size) (hi : P.info? t = some i) :
    (implT P want).contains t = (Instr.missingMethod want i.methods).isNone := by
  rw [Bool.eq_iff_iff, List.contains_iff_mem]
  simp only [implT, List.mem_filter, List.mem_range, ht, true_and, hi, missing_isNone]

theorem assertI_ok (g : Good P G T M h w) {xt t : TypeId} {want : Array (String × TypeId)} {z x : AV} {ok : Bool} {v : AV} {c : Value} (hu : P.underlying t = some (.interface want))
    (hz : zeroT P t = some z) (hx : VRel P G M x c)
    (e : (match (generalizing := false) x with
      | .iface t v => if P.types.size ≤ t then none else if (implT P want).contains t then some (if ok then AV.tup [.iface t v, .bool true] else .iface t v, h)
        else if ok then some (.tup [z, .bool false], h) else none
      | .nilIface => if ok then some (.tup [z, .bool false], h) else none
      | _ => none) = some (v, h')) : SR P G T W M w v h' (Instr.typeAssert c xt t ok) := by
  obtain ⟨zc, hz1, hz2⟩ := zeroT_run hz w
  have hzr : VRel P G M z zc := cv_rel hz2
  cases x <;> simp only [reduceCtorEq] at e
  · rename_i u y
    cases hx with | @iface _ _ cy hy =>
    split at e
    · cases e
    · rename_i hlt
      have hlt : u < P.types.size := by omega
      have hi := info_lt (P := P) hlt
      have hm := mem_implT (want := want) hlt hi
      split at e
      · rename_i hin
        rw [hm] at hin
        have hn : Instr.missingMethod want P.types[u].methods = none := by simpa using hin
        simp only [Option.some.injEq, Prod.mk.injEq] at e
        obtain ⟨rfl, rfl⟩ := e
        cases ok
        · refine .pure g (c := .iface u cy) ?_ (by simpa using VRel.iface hy)
          simp only [Instr.typeAssert, Sem.run_bind, run_underlying hu, Result.andThen_ok, typeInfo, run_program, hi, hn, Sem.run_pure]
          rfl
        · refine .pure g (c := .tuple #[.iface u cy, .bool true]) ?_ ?_
          · simp only [Instr.typeAssert, Sem.run_bind, run_underlying hu, Result.andThen_ok, typeInfo, run_program, hi, hn, Sem.run_pure]
            rfl
          · exact (LRel.cons (.iface hy) (.cons .bool .nil)).tup
      · rename_i hin
        rw [hm] at hin
        have hn : ∃ s, Instr.missingMethod want P.types[u].methods = some s := by
          cases hq : Instr.missingMethod want P.types[u].methods with
          | none => simp [hq] at hin
          | some s => exact ⟨s, rfl⟩
        obtain ⟨s, hn⟩ := hn
        split at e
        · rename_i hok
          simp only [Option.some.injEq, Prod.mk.injEq] at e
          obtain ⟨rfl, rfl⟩ := e
          refine .pure g (c := .tuple #[zc, .bool false]) ?_ (LRel.cons hzr (.cons .bool .nil)).tup
          simp only [Instr.typeAssert, Sem.run_bind, run_underlying hu, Result.andThen_ok, typeInfo, run_program, hi, hn, Sem.run_pure, hok, if_true, hz1]
        · cases e
  · cases hx
    split at e
    · rename_i hok
      simp only [Option.some.injEq, Prod.mk.injEq] at e
      obtain ⟨rfl, rfl⟩ := e
      refine .pure g (c := .tuple #[zc, .bool false]) ?_ (LRel.cons hzr (.cons .bool .nil)).tup
      simp only [Instr.typeAssert, Sem.run_bind, run_underlying hu, Result.andThen_ok, Sem.run_pure, hok, if_true, hz1]
    · cases e

theorem assertC_ok (g : Good P G T M h w) {xt t : TypeId} {d : TypeDesc} {z x : AV} {ok : Bool} {v : AV} {c : Value} (hu : P.underlying t = some d) (hd : ∀ ms, d ≠ .interface ms)
    (hz : zeroT P t = some z) (hx : VRel P G M x c)
    (e : (match (generalizing := false) x with
      | .iface t' v => if t' = t then some (if ok then AV.tup [v, .bool true] else v, h)
        else if ok then some (.tup [z, .bool false], h) else none
      | .nilIface => if ok then some (.tup [z, .bool false], h) else none
      | _ => none) = some (v, h')) : SR P G T W M w v h' (Instr.typeAssert c xt t ok) := by
  obtain ⟨zc, hz1, hz2⟩ := zeroT_run hz w
  have hzr : VRel P G M z zc := cv_rel hz2
  cases x <;> simp only [reduceCtorEq] at e
  · rename_i u y
    cases hx with | @iface _ _ cy hy =>
    split at e
    · rename_i htu
      subst htu
      simp only [Option.some.injEq, Prod.mk.injEq] at e
      obtain ⟨rfl, rfl⟩ := e
      cases ok
      · refine .pure g (c := cy) ?_ (by simpa using hy)
        simp only [Instr.typeAssert, Sem.run_bind, run_underlying hu, Result.andThen_ok]
        cases d <;> first | (simp only [if_true]; rfl) | exact absurd rfl (hd _)
      · refine .pure g (c := .tuple #[cy, .bool true]) ?_ (LRel.cons hy (.cons .bool .nil)).tup
        simp only [Instr.typeAssert, Sem.run_bind, run_underlying hu, Result.andThen_ok]
        cases d <;> first | (simp only [if_true]; rfl) | exact absurd rfl (hd _)
    · rename_i htu
      split at e
      · rename_i hok
        simp only [Option.some.injEq, Prod.mk.injEq] at e
        obtain ⟨rfl, rfl⟩ := e
        refine .pure g (c := .tuple #[zc, .bool false]) ?_ (LRel.cons hzr (.cons .bool .nil)).tup
        simp only [Instr.typeAssert, Sem.run_bind, run_underlying hu, Result.andThen_ok]
        cases d <;> first | (simp only [htu, if_false, hok, if_true, Sem.run_bind, hz1, Result.andThen_ok, Sem.run_pure]; done) | exact absurd rfl (hd _)
      · cases e
  · cases hx
    split at e
    · rename_i hok
      simp only [Option.some.injEq, Prod.mk.injEq] at e
      obtain ⟨rfl, rfl⟩ := e
      refine .pure g (c := .tuple #[zc, .bool false]) ?_ (LRel.cons hzr (.cons .bool .nil)).tup
      simp only [Instr.typeAssert, Sem.run_bind, run_underlying hu, Result.andThen_ok]
      cases d <;> first | (simp only [hok, if_true, Sem.run_bind, hz1, Result.andThen_ok, Sem.run_pure]; done) | exact absurd rfl (hd _)
    · cases e

end
end Am
end
section
namespace Am
open Go Go.Lib

section
variable {P : Program} {G : Nat} {T W : Loc → Prop} {M M' : Mp} {h h' : Heap} {w w' : World}

theorem len_str_ok (g : Good P G T M h w) {t ty : TypeId} {s : List UInt8} {c : Value} (hu : P.underlying t = some .string) (hx : VRel P G M (.str s) c) :
    SR P G T W M w (.int .i64 s.length) h (Builtin.len_ #[t] ty #[c]) := by
  obtain ⟨a, rfl, rfl⟩ := vr_str hx
  refine .pure g (c := goInt a.size) ?_ (by rw [str_size (a := a) rfl]; exact .int)
  simp [Builtin.len_, run_underlying hu]

theorem len_slice_ok (g : Good P G T M h w) {t ty e : TypeId} {xs : List AV} {p : Perm} {c : Value} (hu : P.underlying t = some (.slice e)) (hx : VRel P G M (.slice xs p) c) :
    SR P G T W M w (.int .i64 xs.length) h (Builtin.len_ #[t] ty #[c]) := by
  cases hx with
  | sliceNil _ => exact .pure g (c := goInt 0) (by simp [Builtin.len_, run_underlying hu]) .int
  | slice => exact .pure g (c := goInt _) (by simp [Builtin.len_, run_underlying hu]) .int

theorem len_own_ok (g : Good P G T M h w) {t ty e : TypeId} {s n : Nat} {c : Value} (hu : P.underlying t = some (.slice e)) (hx : VRel P G M (.oslice s n) c) :
    SR P G T W M w (.int .i64 n) h (Builtin.len_ #[t] ty #[c]) := by
  cases hx with
  | oslice => exact .pure g (c := goInt _) (by simp [Builtin.len_, run_underlying hu]) .int

theorem cap_ok (g : Good P G T M h w) {t ty e : TypeId} {xs : List AV} {p : Perm} (hp : p = .full ∨ p = .nil) {c : Value} (hu : P.underlying t = some (.slice e)) (hx : VRel P G M (.slice xs p) c) :
    SR P G T W M w (.int .i64 xs.length) h (Builtin.cap_ #[t] ty #[c]) := by
  cases hx with
  | sliceNil _ => exact .pure g (c := goInt 0) (by simp [Builtin.cap_, run_underlying hu]) .int
  | slice cv hs hp' hr hc hk =>
    rcases hp with rfl | rfl
    · simp only [PermOk] at hk
      subst hk
      exact .pure g (c := goInt _) (by simp [Builtin.cap_, run_underlying hu]) .int
    · exact hk.elim

theorem min2_ok (g : Good P G T M h w) {ts : Array TypeId} {ty : TypeId} {k k' : IntKind} {a b : Int} {c d : Value} (hx : VRel P G M (.int k a) c) (hy : VRel P G M (.int k' b) d) :
    SR P G T W M w (.int k (if b < a then b else a)) h (Builtin.min_ ts ty #[c, d]) := by
  cases vr_int hx; cases vr_int hy
  refine .pure g (c := .int k (if b < a then b else a)) ?_ .int
  simp [Builtin.min_, Builtin.min2]

theorem max2_ok (g : Good P G T M h w) {ts : Array TypeId} {ty : TypeId} {k k' : IntKind} {a b : Int} {c d : Value} (hx : VRel P G M (.int k a) c) (hy : VRel P G M (.int k' b) d) :
    SR P G T W M w (.int k (if a < b then b else a)) h (Builtin.max_ ts ty #[c, d]) := by
  cases vr_int hx; cases vr_int hy
  refine .pure g (c := .int k (if a < b then b else a)) ?_ .int
  simp only [Builtin.max_, List.foldlM_cons, List.foldlM_nil, Builtin.max2, bind_pure]
  by_cases h : a < b <;> simp [h]

theorem sdata_nil_ok (g : Good P G T M h w) {ts : Array TypeId} {ty : TypeId} {c : Value} (hx : VRel P G M (.slice [] .nil) c) :
    SR P G T W M w .nilptr h (Builtin.unsafeSliceData_ ts ty #[c]) := by
  cases hx with
  | sliceNil _ => exact .pure g (run_unsafeSliceData_nil w ts ty 0 0) .nilptr
  | slice cv hs hp hr hc hk => exact hk.elim

/-- the elements of a slice of bytes, by their cells -/
theorem bytes_cells {xs : List AV} {t : List UInt8} {b o sz : Nat} {cv : Nat → Value} (hb : unbytes xs = some t)
    (hs : ∀ i, i < xs.length → (cv i).cells.size = sz ∧ (xs.getD i .junk).cells?.isSome ∧ (xs.getD i .junk).nf G 0)
    (hp : ∀ i, i < xs.length → ∀ j, j < sz → M.pin b (o + i * sz + j) = some ((cv i).cells.getD j undef))
    (hr : ∀ i, i < xs.length → VRel P G M (xs.getD i .junk) (cv i)) :
    ∀ i, i < xs.length → sz = 1 ∧ M.pin b (o + i) = some (cv i) ∧ cv i = .int .u8 (t.getD i 0).toNat := by
  intro i hi
  obtain ⟨_, hg⟩ := unbytes_get hb
  obtain ⟨n, h1, h2, h2'⟩ := hg i hi
  have h3 := hr i hi
  rw [h1] at h3
  have h4 := vr_int h3
  obtain ⟨h5, _⟩ := hs i hi
  have h6 : sz = 1 := by rw [← h5, h4]; rfl
  subst h6
  have h7 := hp i hi 0 (by omega)
  rw [h4] at h7
  exact ⟨rfl, by rw [h4]; simpa [Value.cells, Array.getD] using h7, by rw [h4, h2']⟩

theorem sdata_ok (g : Good P G T M h w) {ts : Array TypeId} {ty : TypeId} {xs : List AV} {p : Perm} {c : Value} {t : List UInt8} (hn : xs ≠ []) (hb : unbytes xs = some t)
    (hx : VRel P G M (.slice xs p) c) : SR P G T W M w (.sdata xs p) h (Builtin.unsafeSliceData_ ts ty #[c]) := by
  cases hx with
  | sliceNil _ => exact absurd rfl hn
  | @slice _ _ b o cap sz cv hs hp hr hc hk =>
    have hcap : cap ≠ 0 := by
      have : 0 < xs.length := by cases xs with | nil => exact absurd rfl hn | cons => simp
      omega
    have hbc := bytes_cells hb hs hp hr
    exact .pure g (run_unsafeSliceData_row w ts ty _ _ _ hcap) (.sdata cv (fun i hi => (hs i hi).2.2) (fun i hi => (hbc i hi).2.1) hr hk)

theorem ustr_nil_ok (g : Good P G T M h w) {pt it ty : TypeId} {c d : Value} (hx : VRel P G M .nilptr c) (hy : VRel P G M (.int .i64 0) d) :
    SR P G T W M w (.str []) h (Builtin.unsafeString_ #[pt, it] ty #[c, d]) := by
  cases hx; cases vr_int hy
  exact .pure g (run_unsafeString_none w pt it ty none) (.str rfl)

theorem freeze_cells {b o n : Nat} {arr : Array Value} {el : TypeId} {fz : Nat × Nat} (hb : w.heap[b]? = some (.cells arr el fz)) (hn : n ≠ 0) :
    (w.freeze ⟨b, o, none⟩ n).heap[b]? = some (.cells arr el (if fz.1 == fz.2 then (o, o + n) else (min fz.1 o, max fz.2 (o + n)))) := by
  unfold World.freeze
  simp [hn, Array.getElem?_modify, hb]

/-- memory after a write into a slot's block: what is pinned in it stays -/
theorem Good.slotWrite (g : Good P G T M h w) {s : Nat} {r : SRef} (hs : M.slot s = .live r) (k : OneBlock w w' r.b)
    (hp : ∀ o v, M.pin r.b o = some v → w'.cell? ⟨r.b, o, none⟩ = some v) (hS : ∀ x, T (.s s) → h.slot s = some x → SRel P G M w' s x) : Good P G T M h w' where
  mok := ⟨fun c i v hp' => by
      by_cases e : c = r.b
      · subst e; exact hp i v hp'
      · rw [cell_of_heap (k.other c e)]; exact g.mok.pins c i v hp',
    fun m c hc => by rw [k.size]; exact g.mok.boxlt m c hc, g.mok.boxinj, g.mok.boxpin,
    fun m c hc => (g.mok.boxobj m c hc).keep (k.other c (by rintro rfl; exact g.mok.slotbox s r m hs hc)),
    fun s r hr => by rw [k.size]; exact g.mok.slotlt s r hr, g.mok.slotbox, g.mok.slotinj, g.mok.slotpin,
    g.mok.sents.step rfl (fun i a h => k.other a.block (by rintro e; exact g.mok.sents.slot i a s r h hs e.symm)) (fun _ _ h => .inl h) (fun s r h => .inl ⟨s, r, h, rfl⟩)⟩
  glob := g.glob
  gle := g.gle
  nbeq := g.nbeq
  nseq := g.nseq
  hok := g.hok
  fbox := g.fbox
  fslot := g.fslot
  boxes := fun m x ht hx => by
    obtain ⟨c, hc, hx⟩ := g.boxes m x ht hx
    exact ⟨c, hc, hx.keep (.refl M) (k.other c (by rintro rfl; exact g.mok.slotbox s r m hs hc))⟩
  slots := fun s' x ht hx => by
    by_cases e : s' = s
    · subst e; exact hS x ht hx
    · exact (g.slots s' x ht hx).keep (.refl M) rfl (fun r' hr => k.other _ (by intro e'; exact e (g.mok.slotinj s' s r' r hr hs e')))

theorem Stp.slotWrite {s : Nat} {r : SRef} (hW : W (.s s)) (hs : M.slot s = .live r) (k : OneBlock w w' r.b) : Stp W M w M w' :=
  ⟨.refl M, by rw [k.size]; exact Nat.le_refl _, fun c _ hc => k.other c (by rintro rfl; exact hc (.inr ⟨s, r, hW, hs, rfl⟩)), fun _ _ h => .inl h, fun _ _ h => .inl h, fun _ _ _ h => .inl h, fun _ h => .inl h, Nat.le_refl _, Nat.le_refl _, fun _ _ h _ => h, k.io⟩

theorem ustr_ok (g : Good P G T M h w) {pt it ty e : TypeId} (hse : sizeT P e = some 1) {xs : List AV} {s : Nat} {t : List UInt8} {c d : Value} (hp : P.underlying pt = some (.pointer e)) (hc : P.cellsOf e = 1)
    (hx : VRel P G M (.sdata xs (.tok s)) c) (hy : VRel P G M (.int .i64 xs.length) d) (h0 : 0 < xs.length) (hmax : xs.length < 9223372036854775807) (hb : unbytes xs = some t)
    (hg : h.slot s = some (.perm e)) (cv : Cov T W (h.wrS s)) : SR P G T W M w (.str t) (h.wrS s) (Builtin.unsafeString_ #[pt, it] ty #[c, d]) := by
  obtain ⟨hT, hW⟩ := cv.of_wrS
  obtain ⟨r, h1, arr, el, fz, h2, h3, h4, h5, h6, h7⟩ := g.slots s _ hT hg
  obtain ⟨h7, h7s⟩ := h7
  subst h7
  cases vr_int hy
  cases hx with
  | @sdata _ _ b o cap f hn hpin hr hk =>
    simp only [PermOk, TokOk, h1] at hk
    obtain ⟨rfl, rfl, rfl, hrn⟩ := hk
    obtain ⟨hl, hgt⟩ := unbytes_get hb
    have hcell : ∀ i, i < xs.length → w.cell? ⟨r.b, i, none⟩ = some (.int .u8 (t.getD i 0).toNat) := by
      intro i hi
      obtain ⟨n, k1, _, k2⟩ := hgt i hi
      have k3 := hr i hi
      rw [k1] at k3
      have k4 := g.mok.pins _ _ _ (hpin i hi)
      rwa [vr_int k3, h5, Nat.zero_add, k2] at k4
    have hsz : r.sz = 1 := by rw [hse] at h7s; simpa using h7s.symm
    have h3' : r.cap ≤ arr.size := by simpa [hsz] using h3
    have hne : t ≠ [] := by rintro rfl; simp only [List.length_nil] at hl; omega
    have hcap : t.length ≤ arr.size := by omega
    have hrun := run_unsafeString_row (P := P) w pt it ty e hp hc r.b arr.size (by simp [World.shape?, h2]) t hne hcap (by omega) (by
      intro j x hj
      rw [add_none, Nat.zero_add]
      have hlt : j < t.length := (List.getElem?_eq_some_iff.1 hj).1
      rw [hcell j (by omega), List.getD_eq_getElem?_getD, hj]
      rfl)
    rw [← hl] at hrun
    refine ⟨_, _, M, by rw [h5]; exact hrun, ?_, Stp.slotWrite hW h1 (OneBlock.freeze w r.b 0 xs.length), .str (by simp)⟩
    have hfz := freeze_cells (o := 0) h2 (by omega : xs.length ≠ 0)
    refine (g.wrS s).slotWrite h1 (OneBlock.freeze w r.b 0 xs.length) (fun o v hv => ?_) (fun x _ hx => ?_)
    · have := g.mok.pins _ _ _ hv
      simp only [World.cell?, h2] at this
      simp only [World.cell?, hfz]
      exact this
    · have hx' : x = .perm e := by simpa [hg] using hx.symm
      subst hx'
      refine ⟨r, h1, arr, e, _, hfz, h3, ?_, h5, h6, rfl, h7s⟩
      right
      have : (if fz.1 == fz.2 then ((0 : Nat), 0 + xs.length) else (min fz.1 0, max fz.2 (0 + xs.length))).2 ≤ max (if fz.1 = fz.2 then 0 else fz.2) xs.length := by
        by_cases hq : fz.1 = fz.2 <;> simp [hq] <;> omega
      refine Nat.le_trans this ?_
      rw [hrn, hsz]
      rcases h4 with h4 | h4
      · simp [h4]
      · by_cases hq : fz.1 = fz.2 <;> simp [hq] <;> (rw [hrn, hsz] at h4; omega)

end
end Am
end
section
namespace Am
open Go Go.Lib

section
variable {P : Program} {G : Nat} {T W : Loc → Prop} {M M' : Mp} {h h' : Heap} {w w' : World}

/-- a source of so many elements, whose cells are these, in every world in which a map's pins hold -/
structure Src (P : Program) (M : Mp) (xt : TypeId) (x : Value) (size n : Nat) (news : Array Value) : Prop where
  und : ∃ d, P.underlying xt = some d ∧ ∀ k, d ≠ .int k
  len : ∀ w, (Builtin.lenOf x).run P w = .ok n w
  cells : ∀ w, (∀ b o v, M.pin b o = some v → w.cell? ⟨b, o, none⟩ = some v) → (Builtin.firstCells size n x).run P w = .ok news w
  size : news.size = n * size

theorem append_room {st xt e ty : TypeId} {x : Value} {size n len cap : Nat} {news : Array Value} {b o : Nat} (hs : P.underlying st = some (.slice e)) (hz : sizeT P e = some size)
    (hx : Src P M xt x size n news) (hp : ∀ b o v, M.pin b o = some v → w.cell? ⟨b, o, none⟩ = some v) (hle : len + n ≤ cap) {w' : World}
    (hst : (storeCells ⟨b, o + len * size, none⟩ news.toList).run P w = .ok () w') :
    (Builtin.append_ #[st, xt] ty #[.slice (some ⟨b, o, none⟩) len cap, x]).run P w = .ok (.slice (some ⟨b, o, none⟩) (len + n) cap) w' := by
  obtain ⟨d, hd, hk⟩ := hx.und
  have hz' : (match d with | .int _ => true | _ => false) = false := by
    cases d <;> first | rfl | exact absurd rfl (hk _)
  simp only [Builtin.append_, Sem.run_bind, List.getElem?_toArray, List.getElem?_cons_zero, List.getElem?_cons_succ, run_underlying hs, Result.andThen_ok, sizeT_run hz, run_underlying hd,
    Sem.run_pure, Bool.false_eq_true, if_false, hx.len, Sem.run_ite, hle, if_true, Bool.not_false, hx.cells w hp, add_none, hst]

theorem info_of_size {e : TypeId} {size : Nat} (hz : sizeT P e = some size) : ∃ i, P.info? e = some i ∧ i.size = size := by
  unfold sizeT at hz
  split at hz
  · simpa using hz
  · cases hz

theorem append_grow {st xt e ty : TypeId} {x : Value} {size n len cap bytes : Nat} {news olds : Array Value} {base : Option Addr} {z : AV} {zl : List AV} (hs : P.underlying st = some (.slice e))
    (hz : sizeT P e = some size) (hby : bytesT P e = some bytes) (h0 : bytes ≠ 0) (hzero : zeroT P e = some z) (hzl : z.cells? = some zl) (hzs : zl.length = size) (hx : Src P M xt x size n news)
    (hp : ∀ b o v, M.pin b o = some v → w.cell? ⟨b, o, none⟩ = some v) (hle : ¬ len + n ≤ cap)
    (hold : (Builtin.firstCells size len (.slice base len cap)).run P w.drew = .ok olds w.drew)
    (hb : (len + n) * bytes ≤ 140737488355328) :
    ∃ newCap zs, len + n ≤ newCap ∧ zs.size = (newCap - (len + n)) * size ∧ (Builtin.append_ #[st, xt] ty #[.slice base len cap, x]).run P w =
      .ok (.slice (some ⟨w.heap.size, 0, none⟩) (len + n) newCap) (w.drew.alloc (.cells (olds ++ news ++ zs) e)) := by
  obtain ⟨d, hd, hk⟩ := hx.und
  have hz' : (match d with | .int _ => true | _ => false) = false := by
    cases d <;> first | rfl | exact absurd rfl (hk _)
  obtain ⟨i, hi, his⟩ := info_of_size hz
  have hib : i.bytes = bytes := by simpa [bytesT, hi] using hby
  obtain ⟨zc, hz1, hz2⟩ := zeroT_run hzero (w.drew)
  have hz1' : (zeroValue e).run P w.drew = .ok zc w.drew := hz1
  have hfit := growslice_fits (need := len + n) (old := cap) (bytes := bytes) (by omega) hb
  have hf : ¬ Builtin.nextslicecap (len + n) cap * i.bytes > 2 ^ 48 := by rw [hib]; omega
  have h63 : ¬ (((len + n : Nat) : Int) > IntKind.i64.max ∧ (false = true ∨ i.bytes = 0)) := by
    rintro ⟨_, h | h⟩
    · cases h
    · omega
  refine ⟨grownCap w (len + n) cap e, Builtin.zeroCells zc.cells (grownCap w (len + n) cap e - (len + n)), grownCap_ge _ _ _ _, ?_, ?_⟩
  · rw [size_zeroCells, ← hzs]
    have := (cells_rel (cv_rel (P := P) (G := 0) (M := ⟨0, 0, fun _ => none, fun _ => .dead, fun _ _ => none, fun _ => none⟩) hz2) hzl).1
    rw [this]
  · simp only [Builtin.append_, Sem.run_bind, List.getElem?_toArray, List.getElem?_cons_zero, List.getElem?_cons_succ, run_underlying hs, Result.andThen_ok, sizeT_run hz, run_underlying hd,
      Sem.run_pure, hz', Bool.false_eq_true, if_false, hx.len, Sem.run_ite, hle, Bool.not_false, if_true, typeInfo, run_program, hi, h63, hf, run_choose, Question.forced, run_askRoom,
      World.drew_eq, hold, hx.cells w.drew hp, hz1', newRow, run_newObj, World.alloc_eq, World.size_drew, false_or]
    rw [if_neg (fun h => h0 (hib ▸ h.2))]
    rfl

/-! ### slots that come and go -/

def Mp.slotSet (M : Mp) (s : Nat) (x : SSt) : Mp := { M with ns := max M.ns (s + 1), slot := fun k => if k = s then x else M.slot k }

theorem Mp.kill_le {s : Nat} (hs : M.slot s ≠ .unborn) : M.Le (M.slotSet s .dead) :=
  ⟨fun _ _ h => h, fun k => by
    simp only [Mp.slotSet]
    split
    · rename_i e; subst e
      cases h : M.slot k with
      | unborn => exact absurd h hs
      | dead => exact .dead
      | live r => exact .kill
    · exact .refl _, fun _ _ _ h => h, rfl⟩

theorem Mp.new_le {s : Nat} {r : SRef} (hs : M.slot s = .unborn) : M.Le (M.slotSet s (.live r)) :=
  ⟨fun _ _ h => h, fun k => by
    simp only [Mp.slotSet]
    split
    · rename_i e; subst e; rw [hs]; exact .unborn
    · exact .refl _, fun _ _ _ h => h, rfl⟩

theorem slot_unslot (h : Heap) (s k : Nat) : (h.unslot s).slot k = if k = s then none else h.slot k := by
  unfold Heap.slot Heap.unslot
  simp only
  generalize h.live = l
  induction l with
  | nil => simp
  | cons p l ih =>
    obtain ⟨q, o⟩ := p
    simp only [List.filter_cons]
    by_cases hq : q = s
    · subst hq
      simp only [bne_self_eq_false, Bool.false_eq_true, if_false, ih]
      by_cases hk : k = q
      · simp [hk]
      · simp [hk, List.lookup_cons, beq_eq_false_iff_ne.2 hk]
    · simp only [bne_iff_ne, ne_eq, hq, not_false_eq_true, if_true, List.lookup_cons, ih]
      by_cases hk : k = q
      · subst hk; simp [hq]
      · simp [beq_eq_false_iff_ne.2 hk]

theorem slot_newSlot (h : Heap) (o : SObj) (k : Nat) : (h.newSlot o).slot k = if k = h.ns then some o else h.slot k := by
  unfold Heap.slot Heap.newSlot
  simp only [List.lookup_cons]
  by_cases hk : k = h.ns
  · simp [hk]
  · simp [hk, beq_eq_false_iff_ne.2 hk]

theorem slot_lt {h : Heap} (k : HOk h) {s : Nat} {o : SObj} (e : h.slot s = some o) : s < h.ns := by
  unfold Heap.slot at e
  have : ∀ (l : List (Nat × SObj)), l.lookup s = some o → (s, o) ∈ l := by
    intro l
    induction l with
    | nil => intro h; simp at h
    | cons p l ih =>
      intro h
      obtain ⟨q, o'⟩ := p
      simp only [List.lookup_cons] at h
      by_cases hq : s = q
      · subst hq
        simp at h; subst h
        exact List.mem_cons_self ..
      · simp only [beq_eq_false_iff_ne.2 hq] at h
        exact List.mem_cons_of_mem _ (ih h)
  exact k.live _ (this _ e)

theorem HOk.unslot {h : Heap} (k : HOk h) (s : Nat) : HOk (h.unslot s) :=
  ⟨k.len, fun p hp => k.live p (List.mem_filter.1 hp).1, k.base, k.sbase⟩
theorem HOk.newSlot {h : Heap} (k : HOk h) (o : SObj) : HOk (h.newSlot o) :=
  ⟨k.len, fun p hp => by
    simp only [Heap.newSlot, List.mem_cons] at hp ⊢
    rcases hp with rfl | hp
    · exact Nat.lt_succ_self _
    · exact Nat.lt_succ_of_lt (k.live p hp), k.base, Nat.le_succ_of_le k.sbase⟩

theorem Good.kill (g : Good P G T M h w) {s : Nat} (hs : M.slot s ≠ .unborn) : Good P G T (M.slotSet s .dead) (h.unslot s) w where
  mok := ⟨g.mok.pins, g.mok.boxlt, g.mok.boxinj, g.mok.boxpin, g.mok.boxobj,
    fun k r hr => by simp only [Mp.slotSet] at hr; split at hr; · cases hr
                     exact g.mok.slotlt k r hr,
    fun k r n hr => by simp only [Mp.slotSet] at hr; split at hr; · cases hr
                       exact g.mok.slotbox k r n hr,
    fun k k' r r' hr hr' e => by
      simp only [Mp.slotSet] at hr hr'; split at hr; · cases hr
      split at hr'; · cases hr'
      exact g.mok.slotinj k k' r r' hr hr' e,
    fun k r j hr => by simp only [Mp.slotSet] at hr; split at hr; · cases hr
                       exact g.mok.slotpin k r j hr,
    g.mok.sents.step rfl (fun _ _ _ => rfl) (fun _ _ h => .inl h) (fun k r hr => by
      simp only [Mp.slotSet] at hr; split at hr
      · cases hr
      · exact .inl ⟨k, r, hr, rfl⟩)⟩
  glob := g.glob
  gle := g.gle
  nbeq := g.nbeq
  nseq := by
    have : s < h.ns := Classical.byContradiction fun hc => hs (g.fslot s (by omega))
    have := g.nseq
    simp only [Mp.slotSet, Heap.unslot]; omega
  hok := g.hok.unslot s
  fbox := g.fbox
  fslot := fun k hk => by
    simp only [Mp.slotSet]
    split
    · rename_i e; subst e; exact absurd (g.fslot k hk) hs
    · exact g.fslot k hk
  boxes := fun n o ht hx => let ⟨b, hb, ho⟩ := g.boxes n o ht hx; ⟨b, hb, ho.keep (Mp.kill_le hs) rfl⟩
  slots := fun k x ht hx => by
    rw [slot_unslot] at hx
    split at hx
    · cases hx
    · rename_i hk
      exact (g.slots k x ht hx).keep (Mp.kill_le hs) (by simp [Mp.slotSet, hk]) (fun _ _ => rfl)

theorem Stp.kill {W : Loc → Prop} {s : Nat} (hs : M.slot s ≠ .unborn) (hW : W (.s s)) : Stp W M w (M.slotSet s .dead) w :=
  ⟨Mp.kill_le hs, Nat.le_refl _, fun _ _ _ => rfl, fun _ _ h => .inl h, fun k r hr => by
    simp only [Mp.slotSet] at hr
    split at hr
    · cases hr
    · exact .inl hr, fun _ _ _ h => .inl h, fun k hk => by
    simp only [Mp.slotSet] at hk
    split at hk
    · rename_i e; subst e; exact .inl hs
    · exact .inl hk, Nat.le_refl _, by simp only [Mp.slotSet]; omega, fun k r hk hw => by
    simp only [Mp.slotSet]
    split
    · rename_i e; subst e; exact absurd hW hw
    · exact hk, ⟨rfl, rfl⟩⟩

/-- pins of cells in a block that nobody writes -/
def Mp.pinIn (M : Mp) (b : Nat) (f : Nat → Option Value) : Mp :=
  { M with pin := fun k o => if k = b then (match f o with | some v => some v | none => M.pin b o) else M.pin k o }

theorem Mp.pinIn_le {b : Nat} {f : Nat → Option Value} (k : MOk G M w) (hf : ∀ o v, f o = some v → w.cell? ⟨b, o, none⟩ = some v) : M.Le (M.pinIn b f) :=
  ⟨fun _ _ h => h, fun s => .refl _, fun c o v hv => by
    simp only [Mp.pinIn]
    split
    · rename_i e; subst e
      cases h : f o with
      | none => exact hv
      | some u =>
        have := hf o u h
        rw [k.pins _ _ _ hv] at this
        exact this.symm
    · exact hv, rfl⟩

theorem Good.pinIn (g : Good P G T M h w) {b : Nat} {f : Nat → Option Value} (hf : ∀ o v, f o = some v → w.cell? ⟨b, o, none⟩ = some v) (hb : ∀ n, M.box n ≠ some b)
    (hs : ∀ s r, M.slot s = .live r → r.b ≠ b) : Good P G T (M.pinIn b f) h w where
  mok := ⟨fun c o v hv => by
      simp only [Mp.pinIn] at hv
      split at hv
      · rename_i e; subst e
        cases h : f o with
        | none => rw [h] at hv; exact g.mok.pins _ _ _ hv
        | some u => rw [h] at hv; cases hv; exact hf o _ h
      · exact g.mok.pins _ _ _ hv, g.mok.boxlt, g.mok.boxinj,
    fun n c o hG hc => by
      have : c ≠ b := by rintro rfl; exact hb n hc
      simp only [Mp.pinIn, this, if_false]
      exact g.mok.boxpin n c o hG hc, g.mok.boxobj, g.mok.slotlt, g.mok.slotbox, g.mok.slotinj,
    fun s r j hr h1 h2 => by
      simp only [Mp.pinIn, hs s r hr, if_false]
      exact g.mok.slotpin s r j hr h1 h2,
    g.mok.sents.step rfl (fun _ _ _ => rfl) (fun _ _ h => .inl h) (fun s r h => .inl ⟨s, r, h, rfl⟩)⟩
  glob := g.glob
  gle := g.gle
  nbeq := g.nbeq
  nseq := g.nseq
  hok := g.hok
  fbox := g.fbox
  fslot := g.fslot
  boxes := fun n o ht hx => let ⟨c, hc, ho⟩ := g.boxes n o ht hx; ⟨c, hc, ho.keep (Mp.pinIn_le g.mok hf) rfl⟩
  slots := fun k x ht hx => (g.slots k x ht hx).keep (Mp.pinIn_le g.mok hf) rfl (fun _ _ => rfl)

theorem Good.newSlot (g : Good P G T M h w) {r : SRef} {x : SObj} (hsn : ∀ i a, M.sent i = some a → r.b ≠ a.block) (hlt : r.b < w.heap.size) (hbox : ∀ n, M.box n ≠ some r.b) (hslot : ∀ s r', M.slot s = .live r' → r'.b ≠ r.b)
    (hpin : ∀ j, r.n * r.sz ≤ j → j < r.cap * r.sz → M.pin r.b (r.o + j) = none) (hS : SRel P G (M.slotSet h.ns (.live r)) w h.ns x) :
    Good P G T (M.slotSet h.ns (.live r)) (h.newSlot x) w := by
  have hle : M.Le (M.slotSet h.ns (.live r)) := Mp.new_le (g.fslot _ (Nat.le_refl _))
  exact {
    mok := ⟨g.mok.pins, g.mok.boxlt, g.mok.boxinj, g.mok.boxpin, g.mok.boxobj,
      fun k r' hr => by
        simp only [Mp.slotSet] at hr; split at hr
        · cases hr; exact hlt
        · exact g.mok.slotlt k r' hr,
      fun k r' n hr => by
        simp only [Mp.slotSet] at hr; split at hr
        · cases hr; exact hbox n
        · exact g.mok.slotbox k r' n hr,
      fun k k' r1 r2 hr hr' e => by
        simp only [Mp.slotSet] at hr hr'
        split at hr <;> split at hr'
        · omega
        · cases hr; exact absurd e.symm (hslot _ _ hr')
        · cases hr'; exact absurd e (hslot _ _ hr)
        · exact g.mok.slotinj k k' r1 r2 hr hr' e,
      fun k r' j hr h1 h2 => by
        simp only [Mp.slotSet] at hr; split at hr
        · cases hr; exact hpin j h1 h2
        · exact g.mok.slotpin k r' j hr h1 h2,
      ⟨g.mok.sents.inj, g.mok.sents.obj, g.mok.sents.box, fun i a k r' h hr => by
        simp only [Mp.slotSet] at hr; split at hr
        · cases hr; exact hsn i a h
        · exact g.mok.sents.slot i a k r' h hr⟩⟩
    glob := g.glob
    gle := g.gle
    nbeq := g.nbeq
    nseq := by simp only [Mp.slotSet, Heap.newSlot, g.nseq]; omega
    hok := g.hok.newSlot x
    fbox := g.fbox
    fslot := fun k hk => by
      simp only [Heap.newSlot] at hk
      have : k ≠ h.ns := by omega
      simp only [Mp.slotSet, this, if_false]
      exact g.fslot k (by omega)
    boxes := fun n o ht hx => let ⟨b, hb, ho⟩ := g.boxes n o ht hx; ⟨b, hb, ho.keep hle rfl⟩
    slots := fun k y ht hx => by
      rw [slot_newSlot] at hx
      split at hx
      · rename_i e; subst e; cases hx; exact hS
      · rename_i e
        exact (g.slots k y ht hx).keep hle (by simp [Mp.slotSet, e]) (fun _ _ => rfl) }

end
end Am
end
section
namespace Am
open Go Go.Lib

section
variable {P : Program} {G : Nat} {T W : Loc → Prop} {M M' : Mp} {h h' : Heap} {w w' : World}

theorem stripL_length : ∀ (xs : List AV), (stripL xs).length = xs.length
  | [] => rfl
  | x :: xs => by simp [stripL, stripL_length xs]

theorem stripL_getD : ∀ (xs : List AV) (i : Nat), (stripL xs).getD i .junk = (xs.getD i .junk).strip
  | [], i => by simp [stripL, AV.strip]
  | x :: xs, 0 => by simp [stripL]
  | x :: xs, i + 1 => by have := stripL_getD xs i; simpa [stripL] using this

theorem strip_cells (x : AV) : x.strip.cells?.isSome = x.cells?.isSome := by cases x <;> simp [AV.strip, AV.cells?]

theorem VRel.strip {x : AV} {c : Value} (h : VRel P G M x c) : VRel P G M x.strip c := by
  induction h with
  | sliceNil _ => exact .sliceNil (.inr (.inl rfl))
  | slice cv hs hp hr hc _ _ => exact .slice cv hs hp hr hc trivial
  | iface _ ih => exact .iface ih
  | agg hl _ ih => exact .agg (by rw [stripL_length]; exact hl) (fun i hi => by rw [stripL_getD]; exact ih i (by rwa [stripL_length] at hi))
  | tup hl _ ih => exact .tup (by rw [stripL_length]; exact hl) (fun i hi => by rw [stripL_getD]; exact ih i (by rwa [stripL_length] at hi))
  | junk => exact .junk
  | bool => exact .bool
  | int => exact .int
  | str h => exact .str h
  | nilptr => exact .nilptr
  | ptr h => exact .ptr h
  | eptr cv hn hp h _ => exact .eptr cv hn hp h
  | optr h => exact .optr h
  | sdata cv hn hp h hs _ => exact .sdata cv hn hp h hs
  | oslice h hc => exact .oslice h hc
  | nilIface => exact .nilIface
  | func hl h _ => exact .func hl h
  | yield h => exact .yield h
  | nilFunc => exact .nilFunc
  | map h => exact .map h
  | iter h => exact .iter h
  | hdl => exact .hdl
  | sent h => exact .sent h

def flatC (cv : Nat → Value) (sz n : Nat) : List Value := (List.range' 0 (n * sz)).map fun k => (cv (k / sz)).cells.getD (k % sz) undef

theorem flatC_length (cv : Nat → Value) (sz n : Nat) : (flatC cv sz n).length = n * sz := by simp [flatC]

theorem idx_lt {i j n sz : Nat} (hi : i < n) (hj : j < sz) : i * sz + j < n * sz := by
  have : (i + 1) * sz ≤ n * sz := Nat.mul_le_mul_right _ hi
  rw [Nat.succ_mul] at this
  omega

theorem flatC_get (cv : Nat → Value) {sz n i j : Nat} (hi : i < n) (hj : j < sz) : (flatC cv sz n)[i * sz + j]? = some ((cv i).cells.getD j undef) := by
  have hlt := idx_lt hi hj
  have h1 : (i * sz + j) / sz = i := by
    rw [Nat.add_comm, Nat.add_mul_div_right _ _ (by omega), Nat.div_eq_of_lt hj, Nat.zero_add]
  have h2 : (i * sz + j) % sz = j := by
    rw [Nat.add_comm, Nat.add_mul_mod_self_right, Nat.mod_eq_of_lt hj]
  simp only [flatC, List.getElem?_map]
  rw [List.getElem?_range' (by simpa using hlt)]
  simp [h1, h2]

/-- elements: values with so many cells each -/
structure Elems (P : Program) (G : Nat) (M : Mp) (sz : Nat) (xs : List AV) (cv : Nat → Value) : Prop where
  ok : ∀ i, i < xs.length → (cv i).cells.size = sz ∧ (xs.getD i .junk).cells?.isSome ∧ (xs.getD i .junk).nf G 0
  rel : ∀ i, i < xs.length → VRel P G M (xs.getD i .junk) (cv i)

theorem Elems.mono {sz : Nat} {xs : List AV} {cv : Nat → Value} (e : Elems P G M sz xs cv) (hm : M.Le M') : Elems P G M' sz xs cv :=
  ⟨e.ok, fun i hi => (e.rel i hi).mono hm⟩

theorem Elems.app {sz : Nat} {xs ys : List AV} {cv cv' : Nat → Value} (e : Elems P G M sz xs cv) (e' : Elems P G M sz ys cv') :
    Elems P G M sz (xs ++ ys) (fun i => if i < xs.length then cv i else cv' (i - xs.length)) := by
  have key : ∀ i, i < (xs ++ ys).length → (i < xs.length ∧ (xs ++ ys).getD i .junk = xs.getD i .junk) ∨ (¬ i < xs.length ∧ i - xs.length < ys.length ∧ (xs ++ ys).getD i .junk = ys.getD (i - xs.length) .junk) := by
    intro i hi
    simp at hi
    by_cases h : i < xs.length
    · exact .inl ⟨h, by simp [List.getD_eq_getElem?_getD, List.getElem?_append_left h]⟩
    · exact .inr ⟨h, by omega, by simp [List.getD_eq_getElem?_getD, List.getElem?_append_right (Nat.le_of_not_lt h)]⟩
  refine ⟨fun i hi => ?_, fun i hi => ?_⟩
  · rcases key i hi with ⟨h, e1⟩ | ⟨h, h', e1⟩
    · rw [e1]; simp only [h, if_true]; exact e.ok i h
    · rw [e1]; simp only [h, if_false]; exact e'.ok _ h'
  · rcases key i hi with ⟨h, e1⟩ | ⟨h, h', e1⟩
    · rw [e1]; simp only [h, if_true]; exact e.rel i h
    · rw [e1]; simp only [h, if_false]; exact e'.rel _ h'

theorem flatC_app (cv cv' : Nat → Value) (sz n m : Nat) (h0 : 0 < sz) : flatC cv sz n ++ flatC cv' sz m = flatC (fun i => if i < n then cv i else cv' (i - n)) sz (n + m) := by
  apply List.ext_getElem?
  intro k
  by_cases hk : k < (n + m) * sz
  · have hd : k = (k / sz) * sz + k % sz := by rw [Nat.mul_comm]; exact (Nat.div_add_mod k sz).symm
    have hm : k % sz < sz := Nat.mod_lt _ h0
    have hq : k / sz < n + m := (Nat.div_lt_iff_lt_mul h0).2 hk
    by_cases hn : k / sz < n
    · have : k < n * sz := (Nat.div_lt_iff_lt_mul h0).1 hn
      rw [List.getElem?_append_left (by rw [flatC_length]; exact this), hd, flatC_get _ hn hm, flatC_get _ hq hm]
      simp [hn]
    · have hge : n * sz ≤ k := Nat.le_of_not_lt fun h => hn ((Nat.div_lt_iff_lt_mul h0).2 h)
      rw [List.getElem?_append_right (by rw [flatC_length]; exact hge), flatC_length]
      have hk' : k - n * sz = (k / sz - n) * sz + k % sz := by
        rw [Nat.sub_mul]
        have h1 : n * sz ≤ k / sz * sz := Nat.mul_le_mul_right _ (Nat.le_of_not_lt hn)
        generalize k / sz * sz = X at hd h1 ⊢
        generalize k % sz = Y at hd ⊢
        omega
      rw [hk', flatC_get _ (by omega) hm]
      conv => rhs; rw [hd]
      rw [flatC_get _ hq hm]
      simp [hn]
  · rw [List.getElem?_eq_none (by simp [flatC_length]; rw [← Nat.add_mul]; omega), List.getElem?_eq_none (by rw [flatC_length]; omega)]

/-- the cells of a slice value's elements -/
theorem slice_src {xs : List AV} {p : Perm} {c : Value} {sz : Nat} (hx : VRel P G M (.slice xs p) c) (hh : headOk sz xs = true) (h0 : 0 < sz) :
    ∃ cv base cap, c = .slice base xs.length cap ∧ Elems P G M sz xs cv ∧ xs.length ≤ cap ∧
      (base = none → xs = [] ∧ cap = 0) ∧ (∀ a, base = some a → ∃ b o, a = ⟨b, o, none⟩ ∧ PermOk M p b o xs.length cap ∧
        ∀ k, k < xs.length * sz → M.pin b (o + k) = some ((flatC cv sz xs.length).getD k undef)) := by
  cases hx with
  | sliceNil hp => exact ⟨fun _ => undef, none, 0, rfl, ⟨fun i hi => by simp at hi, fun i hi => by simp at hi⟩, by simp, fun _ => ⟨rfl, rfl⟩, fun a h => by cases h⟩
  | @slice _ _ b o cap sz' cv hs hp hr hc hk =>
    refine ⟨cv, some ⟨b, o, none⟩, cap, rfl, ?_, hc, (fun h => by cases h), (fun a ha => ⟨b, o, (by cases ha; rfl), hk, ?_⟩)⟩
    · rcases head_sz hs hr hh with h | h
      · subst h; exact ⟨fun i hi => by simp at hi, fun i hi => by simp at hi⟩
      · subst h; exact ⟨hs, hr⟩
    · intro k hk'
      rcases head_sz hs hr hh with h | h
      · subst h; simp at hk'
      · subst h
        have hq : k / sz' < xs.length := (Nat.div_lt_iff_lt_mul h0).2 hk'
        have hm : k % sz' < sz' := Nat.mod_lt _ h0
        have hd : k = (k / sz') * sz' + k % sz' := by rw [Nat.mul_comm]; exact (Nat.div_add_mod k sz').symm
        have := hp _ hq _ hm
        rw [Nat.add_assoc, ← hd] at this
        rw [this, List.getD_eq_getElem?_getD]
        conv => rhs; rw [hd]
        rw [flatC_get _ hq hm]
        rfl

theorem firstCells_slice {xs : List AV} {cv : Nat → Value} {sz : Nat} {base : Option Addr} {cap : Nat}
    (hn : base = none → xs = [])
    (hb : ∀ a, base = some a → ∃ b o, a = ⟨b, o, none⟩ ∧ ∀ k, k < xs.length * sz → M.pin b (o + k) = some ((flatC cv sz xs.length).getD k undef))
    (hp : ∀ b o v, M.pin b o = some v → w.cell? ⟨b, o, none⟩ = some v) :
    (Builtin.firstCells sz xs.length (.slice base xs.length cap)).run P w = .ok (flatC cv sz xs.length).toArray w := by
  cases base with
  | none => rw [hn rfl]; simp [Builtin.firstCells, flatC]
  | some a =>
    obtain ⟨b, o, rfl, hk⟩ := hb a rfl
    simp only [Builtin.firstCells]
    rw [run_loadCells (f := fun k => (flatC cv sz xs.length).getD k undef) (fun j hj => hp _ _ _ (hk j hj))]
    congr 2
    apply List.ext_getElem
    · simp [flatC_length]
    · intro i h1 h2
      simp [List.getD_eq_getElem?_getD, h2]

theorem putV_get : ∀ (ys : List Value) (vs : Array Value) (off i : Nat), off + ys.length ≤ vs.size → i < vs.size → (putV vs off ys)[i]? = if off ≤ i ∧ i < off + ys.length then ys[i - off]? else vs[i]? := by
      intro ys
      induction ys with
      | nil => intro vs off i _ _; simp [putV]; omega
      | cons y ys ih =>
        intro vs off i h1 h2
        simp only [List.length_cons] at h1 ⊢
        rw [putV, ih _ _ _ (by simp; omega) (by simpa using h2)]
        by_cases h3 : off + 1 ≤ i ∧ i < off + 1 + ys.length
        · rw [if_pos h3, if_pos (by omega)]
          rw [show i - off = (i - (off + 1)) + 1 by omega, List.getElem?_cons_succ]
        · rw [if_neg h3]
          by_cases h4 : i = off
          · subst h4
            rw [if_pos (by omega)]
            simp [h2]
          · rw [if_neg (by omega)]
            rw [Array.getElem?_setIfInBounds_ne (by omega)]

/-- the cells that append writes may be written -/
theorem flat_one {sz : Nat} {ys : List AV} {cvy : Nat → Value} (h0 : 0 < sz) (hy : Elems P G M sz ys cvy) (hfl : ys.all AV.flatOk = true) : ∀ v ∈ flatC cvy sz ys.length, v.oneCell' = true := by
  intro v hv
  simp only [flatC, List.mem_map] at hv
  obtain ⟨k, hk, rfl⟩ := hv
  have hk : k < ys.length * sz := by simpa using hk
  have hq : k / sz < ys.length := (Nat.div_lt_iff_lt_mul h0).2 hk
  have hm : k % sz < sz := Nat.mod_lt _ h0
  have hfy : (ys.getD (k / sz) .junk).flatOk = true := by
    rw [List.all_eq_true] at hfl
    rw [List.getD_eq_getElem?_getD, List.getElem?_eq_getElem hq]
    exact hfl _ (List.getElem_mem hq)
  obtain ⟨e1, e2, _⟩ := hy.ok _ hq
  obtain ⟨cs, hcs⟩ := Option.isSome_iff_exists.1 e2
  have hL := cells_rel (hy.rel _ hq) hcs
  simp only [AV.flatOk, hcs, List.all_eq_true] at hfy
  have hm' : k % sz < cs.length := by rw [← hL.1, e1]; exact hm
  have := hL.2 _ hm'
  rw [List.getD_eq_getElem?_getD, List.getElem?_eq_getElem hm'] at this
  exact scalar_rel this (hfy _ (List.getElem_mem hm'))

/-- a new row of so many elements, with room behind it, and the permission to go on -/
theorem new_row (g : Good P G T M h w) {e sz len cap : Nat} {xs : List AV} {cv : Nat → Value} {zs : Array Value} (he : Elems P G M sz xs cv) (hl : xs.length = len) (hse : sizeT P e = some sz) (hc : len ≤ cap)
    (hz : zs.size = (cap - len) * sz) :
    ∃ M', M.Le M' ∧ Good P G T M' (h.newSlot (.perm e)) (w.alloc (.cells ((flatC cv sz len).toArray ++ zs) e)) ∧
      VRel P G M' (.slice xs (.tok h.ns)) (.slice (some ⟨w.heap.size, 0, none⟩) len cap) ∧ M'.box = M.box ∧
      (∀ s r, M'.slot s = .live r → M.slot s = .live r ∨ r.b = w.heap.size) ∧
      ∀ W, Stp W M w M' (w.alloc (.cells ((flatC cv sz len).toArray ++ zs) e)) := by
  let arr : Array Value := (flatC cv sz len).toArray ++ zs
  let w1 := w.alloc (.cells arr e)
  let f : Nat → Option Value := fun o => if o < len * sz then (flatC cv sz len)[o]? else none
  have hsize : arr.size = cap * sz := by
    simp only [arr, Array.size_append, List.size_toArray, flatC_length, hz]
    rw [← Nat.add_mul]; congr 1; omega
  have hheap : w1.heap[w.heap.size]? = some (.cells arr e) := alloc_heap_new _
  have hcell : ∀ o, o < len * sz → w1.cell? ⟨w.heap.size, o, none⟩ = (flatC cv sz len)[o]? := by
    intro o ho
    simp only [World.cell?, hheap]
    simp [arr, Array.getElem?_append, flatC_length, ho]
  have hf : ∀ o v, f o = some v → w1.cell? ⟨w.heap.size, o, none⟩ = some v := by
    intro o v hv
    simp only [f] at hv
    split at hv
    · rename_i ho; rw [hcell o ho, hv]
    · cases hv
  have g1 : Good P G T M h w1 := g.alloc _
  have hb : ∀ n, M.box n ≠ some w.heap.size := fun n hn => absurd (g.mok.boxlt n _ hn) (Nat.lt_irrefl _)
  have hs : ∀ s r, M.slot s = .live r → r.b ≠ w.heap.size := fun s r hr e => absurd (g.mok.slotlt s r hr) (by omega)
  have g2 := g1.pinIn (b := w.heap.size) hf hb hs
  have hle2 := Mp.pinIn_le (b := w.heap.size) g1.mok hf
  let r : SRef := ⟨w.heap.size, 0, cap, sz, len⟩
  have hle3 : (M.pinIn w.heap.size f).Le ((M.pinIn w.heap.size f).slotSet h.ns (.live r)) := Mp.new_le (g2.fslot _ (Nat.le_refl _))
  have g3 := g2.newSlot (r := r) (x := .perm e) (fun i a h e => by have := g.mok.sents.lt h; simp only [r] at e; omega) (by simp [r, w1]) hb hs (fun j h1 h2 => by
      simp only [r, Nat.zero_add, Mp.pinIn, if_true, f]
      rw [if_neg (by simp only [r] at h1; omega)]
      exact g.mok.pin_new j) ⟨r, by simp [Mp.slotSet], arr, e, (0, 0), hheap, by simp only [r]; omega, .inl rfl, rfl, hc, rfl, hse⟩
  have hls : ∀ (s : Nat) (r' : SRef), ((M.pinIn w.heap.size f).slotSet h.ns (.live r)).slot s = .live r' → M.slot s = .live r' ∨ r'.b = w.heap.size := by
    intro s r' hr
    simp only [Mp.slotSet] at hr
    split at hr
    · cases hr; exact .inr rfl
    · exact .inl hr
  refine ⟨_, hle2.trans hle3, g3, ?_, rfl, hls, fun W => ⟨hle2.trans hle3, by simp, fun b hb _ => alloc_heap_old _ hb, fun _ _ h => .inl h, fun s r' hr => ?_, fun b o v hv => ?_, fun s hs => ?_, Nat.le_refl _, ?_, fun s r' hs _ => ?_, ⟨rfl, rfl⟩⟩⟩
  · subst hl
    refine .slice cv he.ok (fun i hi j hj => ?_) (fun i hi => (he.rel i hi).mono (hle2.trans hle3)) hc ?_
    · have hlt := idx_lt hi hj
      simp only [Mp.slotSet, Mp.pinIn, if_true, Nat.zero_add, f, hlt]
      rw [flatC_get cv hi hj]
    · simp [PermOk, TokOk, Mp.slotSet, r]
  · rcases hls s r' hr with h | h
    · exact .inl h
    · exact .inr (.inl (by omega))
  · simp only [Mp.slotSet, Mp.pinIn] at hv
    split at hv
    · rename_i e; exact .inr (.inl (by omega))
    · exact .inl hv
  · simp only [Mp.slotSet, Mp.pinIn] at hs
    split at hs
    · rename_i e; have := g.nseq; exact .inr (by omega)
    · exact .inl hs
  · simp only [Mp.slotSet, Mp.pinIn]; omega
  · simp only [Mp.slotSet, Mp.pinIn]
    split
    · rename_i e; subst e; rw [g.fslot _ (Nat.le_refl _)] at hs; cases hs
    · exact hs

theorem append_pure_ok (g : Good P G T M h w) {st xt e ty : TypeId} {sz bytes : Nat} {xs ys : List AV} {p : Perm} {s x : Value} {z : AV} {zl : List AV} {cvy : Nat → Value}
    (hs : P.underlying st = some (.slice e)) (hz : sizeT P e = some sz) (h0 : sz ≠ 0) (hby : bytesT P e = some bytes) (hb0 : bytes ≠ 0) (hzero : zeroT P e = some z) (hzl : z.cells? = some zl)
    (hzs : zl.length = sz) (hx : VRel P G M (.slice xs p) s) (hsrc : Src P M xt x sz ys.length (flatC cvy sz ys.length).toArray) (hy : Elems P G M sz ys cvy) (hne : ys ≠ []) (hfl : ys.all AV.flatOk = true)
    (hh : headOk sz xs = true) (hbig : (xs.length + ys.length) * bytes ≤ 140737488355328) {h1 : Heap}
    (hcase : ((p = .full ∨ p = .nil) ∧ h1 = h) ∨ (∃ n, p = .tok n ∧ h.slot n = some (.perm e) ∧ h1 = (h.wrS n).unslot n))
    (cov : Cov T W (h1.newSlot (.perm e))) :
    SR P G T W M w (.slice (xs ++ ys) (.tok h1.ns)) (h1.newSlot (.perm e)) (Builtin.append_ #[st, xt] ty #[s, x]) := by
  obtain ⟨cv, base, cap, rfl, hxe, hxc, hxn, hxb⟩ := slice_src hx hh (by omega)
  have happ := hxe.app hy
  have hlen : (xs ++ ys).length = xs.length + ys.length := by simp
  have hypos : 0 < ys.length := by cases ys with | nil => exact absurd rfl hne | cons => simp
  have hold : ∀ w, (∀ b o v, M.pin b o = some v → w.cell? ⟨b, o, none⟩ = some v) →
      (Builtin.firstCells sz xs.length (.slice base xs.length cap)).run P w = .ok (flatC cv sz xs.length).toArray w := fun w hp =>
    firstCells_slice (fun hn => (hxn hn).1) (fun a ha => let ⟨b, o, h1, _, h3⟩ := hxb a ha; ⟨b, o, h1, h3⟩) hp
  have hcat : (flatC cv sz xs.length).toArray ++ (flatC cvy sz ys.length).toArray = (flatC (fun i => if i < xs.length then cv i else cvy (i - xs.length)) sz (xs.length + ys.length)).toArray := by
    rw [List.append_toArray, flatC_app _ _ _ _ _ (by omega)]
  -- the old permission, if there is one, goes
  have hk : ∃ M1, M.Le M1 ∧ Good P G T M1 h1 w ∧ M1.box = M.box ∧ M1.pin = M.pin ∧ (∀ s r, M1.slot s = .live r → M.slot s = .live r) ∧ Stp W M w M1 w ∧
      (∀ n, p = .tok n → M1.slot n = .dead ∧ W (.s n) ∧ T (.s n)) := by
    rcases hcase with ⟨_, rfl⟩ | ⟨n, rfl, hn, rfl⟩
    · exact ⟨M, .refl M, g, rfl, rfl, fun _ _ h => h, .refl W M w, fun n hn => by rename_i hp; rcases hp with rfl | rfl <;> cases hn⟩
    · have hTW := (Cov.of_grow (Grow.newSlot _ _) cov).of_grow (Grow.unslot _ _) |>.of_wrS
      obtain ⟨r, hr, _⟩ := g.slots n _ hTW.1 hn
      have hnu : M.slot n ≠ .unborn := by rw [hr]; simp
      refine ⟨M.slotSet n .dead, Mp.kill_le hnu, (g.wrS n).kill hnu, rfl, rfl, fun s r h => ?_, Stp.kill hnu hTW.2, fun m hm => ?_⟩
      · simp only [Mp.slotSet] at h; split at h
        · cases h
        · exact h
      · cases hm; exact ⟨by simp [Mp.slotSet], hTW.2, hTW.1⟩
  obtain ⟨M1, hle1, g1, hbox1, hpin1, hslot1, hst1, htok1⟩ := hk
  by_cases hroom : xs.length + ys.length ≤ cap
  · -- in place
    have hbase : ∃ b o, base = some ⟨b, o, none⟩ ∧ PermOk M p b o xs.length cap := by
      cases base with
      | none => have := (hxn rfl).2; omega
      | some a => obtain ⟨b, o, rfl, h2, _⟩ := hxb a rfl; exact ⟨b, o, rfl, h2⟩
    obtain ⟨b, o, rfl, hperm⟩ := hbase
    rcases hcase with ⟨hp, _⟩ | ⟨n, rfl, hn, rfl⟩
    · rcases hp with rfl | rfl
      · simp only [PermOk] at hperm; omega
      · exact hperm.elim
    obtain ⟨hdead, hWn, hTn⟩ := htok1 n rfl
    obtain ⟨r, hr, arr, el, fz, k2, k3, k4, k5, k6, k7, k7s⟩ := g.slots n _ hTn hn
    subst k7
    have hrsz : r.sz = sz := by rw [hz] at k7s; simpa using k7s.symm
    simp only [PermOk, TokOk, hr] at hperm
    obtain ⟨rfl, rfl, rfl, hrn⟩ := hperm
    -- the cells are written
    have hw : ∃ w', (storeCells ⟨r.b, r.o + xs.length * sz, none⟩ (flatC cvy sz ys.length).toArray.toList).run P w = .ok () w' ∧ OneBlock w w' r.b ∧
        w'.heap[r.b]? = some (.cells (putV arr (xs.length * sz) (flatC cvy sz ys.length)) e fz) := by
      have s1 : ∀ j, w.frozen? ⟨r.b, r.o + xs.length * sz + 0 + j, none⟩ = false := by
        intro j
        have : ¬ (fz.1 ≤ r.o + xs.length * sz + 0 + j ∧ r.o + xs.length * sz + 0 + j < fz.2) := by
          rcases k4 with h | h
          · omega
          · rw [hrn, hrsz] at h; omega
        simp only [World.frozen?, k2, Bool.and_eq_false_iff, decide_eq_false_iff_not]
        omega
      have s2 : r.o + xs.length * sz + 0 + (flatC cvy sz ys.length).length ≤ arr.size := by
        rw [flatC_length, k5]
        have : (xs.length + ys.length) * sz ≤ r.cap * sz := Nat.mul_le_mul_right _ hroom
        rw [Nat.add_mul] at this
        rw [hrsz] at k3
        omega
      have s3 := flat_one (by omega) hy hfl
      obtain ⟨w', q1, q2, q3⟩ := run_storeCells (P := P) (o := r.o + xs.length * sz) (flatC cvy sz ys.length) 0 w arr k2 (fun j _ => s1 j) s2 s3
      exact ⟨w', by simpa using q1, q2, by simpa [k5] using q3⟩
    obtain ⟨w', q1, q2, q3⟩ := hw
    -- what the cells hold now
    have hcapsz : (xs.length + ys.length) * sz ≤ r.cap * sz := Nat.mul_le_mul_right _ hroom
    rw [Nat.add_mul] at hcapsz
    rw [hrsz] at k3
    have hold' : ∀ k, k < xs.length * sz → w'.cell? ⟨r.b, k, none⟩ = w.cell? ⟨r.b, k, none⟩ := by
      intro k hk
      simp only [World.cell?, q3, k2, Option.isSome_none, Bool.false_eq_true, if_false]
      rw [putV_get _ _ _ _ (by rw [flatC_length]; omega) (by omega), if_neg (by omega)]
    have hnew : ∀ k, k < ys.length * sz → w'.cell? ⟨r.b, xs.length * sz + k, none⟩ = (flatC cvy sz ys.length)[k]? := by
      intro k hk
      simp only [World.cell?, q3, Option.isSome_none, Bool.false_eq_true, if_false]
      rw [putV_get _ _ _ _ (by rw [flatC_length]; omega) (by omega), if_pos (by rw [flatC_length]; omega)]
      simp
    have hpinlt : ∀ k v, M.pin r.b k = some v → ¬ (xs.length * sz ≤ k ∧ k < r.cap * sz) := by
      rintro k v hv ⟨h1, h2⟩
      have := g.mok.slotpin n r k hr (by rw [hrn, hrsz]; exact h1) (by rw [hrsz]; exact h2)
      rw [k5, Nat.zero_add] at this
      rw [this] at hv; cases hv
    have gA : Good P G T M (h.wrS n) w' := (g.wrS n).slotWrite hr q2 (fun k v hv => by
        have h1 := g.mok.pins _ _ _ hv
        have h2 := hpinlt k v hv
        simp only [World.cell?, k2, Option.isSome_none, Bool.false_eq_true, if_false] at h1
        have hka : k < arr.size := by
          rcases Nat.lt_or_ge k arr.size with h | h
          · exact h
          · simp [Array.getElem?_eq_none h] at h1
        simp only [World.cell?, q3, Option.isSome_none, Bool.false_eq_true, if_false]
        rw [putV_get _ _ _ _ (by rw [flatC_length]; omega) hka, if_neg (by rw [flatC_length]; omega)]
        exact h1) (fun x _ hx => by
        have hx' : x = .perm e := by simpa [hn] using hx.symm
        subst hx'
        exact ⟨r, hr, _, e, fz, q3, by rw [putV_size, hrsz]; exact k3, k4, k5, k6, rfl, k7s⟩)
    have hnu : M.slot n ≠ .unborn := by rw [hr]; simp
    have gB := gA.kill hnu
    -- the new cells are pinned
    let f : Nat → Option Value := fun k => if xs.length * sz ≤ k ∧ k < (xs.length + ys.length) * sz then (flatC cvy sz ys.length)[k - xs.length * sz]? else none
    have hf : ∀ k v, f k = some v → w'.cell? ⟨r.b, k, none⟩ = some v := by
      intro k v hv
      simp only [f] at hv
      split at hv
      · rename_i hk
        rw [Nat.add_mul] at hk
        have := hnew (k - xs.length * sz) (by omega)
        rw [show xs.length * sz + (k - xs.length * sz) = k by omega] at this
        rw [this, hv]
      · cases hv
    have hbx : ∀ m, (M.slotSet n .dead).box m ≠ some r.b := fun m => g.mok.slotbox n r m hr
    have hsl : ∀ s r', (M.slotSet n .dead).slot s = .live r' → r'.b ≠ r.b := by
      intro s r' hs' e'
      simp only [Mp.slotSet] at hs'
      split at hs'
      · cases hs'
      · rename_i hsn; exact hsn (g.mok.slotinj s n r' r hs' hr e')
    have gC := gB.pinIn (b := r.b) hf hbx hsl
    let r2 : SRef := ⟨r.b, 0, r.cap, sz, xs.length + ys.length⟩
    have gD := gC.newSlot (r := r2) (x := .perm e) (fun i a h => g.mok.sents.slot i a n r h hr) (by simp only [r2]; rw [q2.size]; exact g.mok.slotlt n r hr) hbx hsl (fun j h1 h2 => by
        simp only [r2] at h1 h2
        simp only [r2, Nat.zero_add, Mp.pinIn, if_true, f]
        rw [if_neg (by omega)]
        have := g.mok.slotpin n r j hr (by rw [hrn, hrsz]; rw [Nat.add_mul] at h1; omega) (by rw [hrsz]; exact h2)
        rw [k5, Nat.zero_add] at this
        exact this) ⟨r2, by simp [Mp.slotSet], _, e, fz, q3, by rw [putV_size]; exact k3, by
        rcases k4 with h | h
        · exact .inl h
        · right; simp only [r2]; rw [Nat.add_mul]; rw [hrn, hrsz] at h; omega, rfl, hroom, rfl, hz⟩
    have hleA : M.Le (M.slotSet n .dead) := Mp.kill_le hnu
    have hleB := Mp.pinIn_le (b := r.b) gB.mok hf
    have hleC : ((M.slotSet n .dead).pinIn r.b f).Le (((M.slotSet n .dead).pinIn r.b f).slotSet ((h.wrS n).unslot n).ns (.live r2)) := Mp.new_le (gC.fslot _ (Nat.le_refl _))
    have hle := (hleA.trans hleB).trans hleC
    have hrun := append_room (ty := ty) hs hz hsrc g.mok.pins hroom q1
    refine ⟨_, _, _, hrun, gD, ⟨hle, by rw [q2.size]; exact Nat.le_refl _, fun c _ hc => q2.other c (by rintro rfl; exact hc (.inr ⟨n, r, hWn, hr, rfl⟩)), fun k c hk => .inl hk, fun s r' hs' => ?_, fun b o v hv => ?_, fun s hs' => ?_, Nat.le_refl _, by simp only [Mp.slotSet, Mp.pinIn]; omega, fun s r' hs' hw => ?_, q2.io⟩, ?_⟩
    · simp only [Mp.slotSet, Mp.pinIn] at hs'
      split at hs'
      · cases hs'; exact .inr (.inr ⟨n, r, hWn, hr, rfl⟩)
      · split at hs'
        · cases hs'
        · exact .inl hs'
    · simp only [Mp.slotSet, Mp.pinIn] at hv
      split at hv
      · rename_i e; exact .inr (.inr ⟨n, r, hWn, hr, e.symm⟩)
      · exact .inl hv
    · simp only [Mp.slotSet, Mp.pinIn] at hs'
      split at hs'
      · rename_i e; have := g.nseq; exact .inr (by rw [e]; simp [Heap.unslot]; omega)
      · split at hs'
        · rename_i e; subst e; exact .inl hnu
        · exact .inl hs'
    · simp only [Mp.slotSet, Mp.pinIn]
      split
      · rename_i e
        have hu : M.slot s = .unborn := g.fslot s (by rw [e]; simp [Heap.unslot])
        rw [hs'] at hu; cases hu
      · split
        · rename_i e; subst e; exact absurd hWn hw
        · exact hs'
    · have := VRel.slice (P := P) (G := G) (M := ((M.slotSet n .dead).pinIn r.b f).slotSet ((h.wrS n).unslot n).ns (.live r2)) (xs := xs ++ ys) (p := .tok ((h.wrS n).unslot n).ns) (b := r.b) (o := r.o) (cap := r.cap) (sz := sz)
        (fun i => if i < xs.length then cv i else cvy (i - xs.length)) happ.ok (fun i hi j hj => ?_) (fun i hi => (happ.rel i hi).mono hle) (by rw [hlen]; exact hroom) (by
          simp [PermOk, TokOk, Mp.slotSet, r2, k5, hlen])
      · rw [hlen] at this; exact this
      · rw [hlen] at hi
        have hlt := idx_lt hi hj
        rw [k5, Nat.zero_add]
        simp only [Mp.slotSet, Mp.pinIn, if_true, f]
        by_cases hix : i < xs.length
        · have h1 := idx_lt hix hj
          rw [if_neg (by omega)]
          simp only [hix, if_true]
          have := (hxb _ rfl)
          obtain ⟨b', o', hab, _, h3⟩ := this
          cases hab
          have h4 := h3 _ h1
          rw [k5, Nat.zero_add] at h4
          rw [h4, List.getD_eq_getElem?_getD, flatC_get cv hix hj]
          rfl
        · have h1 : xs.length * sz ≤ i * sz := Nat.mul_le_mul_right _ (Nat.le_of_not_lt hix)
          rw [if_pos ⟨by omega, hlt⟩]
          simp only [hix, if_false]
          have h2 : i * sz + j - xs.length * sz = (i - xs.length) * sz + j := by rw [Nat.sub_mul]; omega
          rw [h2, flatC_get cvy (by omega) hj]
  · -- a new row
    obtain ⟨newCap, zs, hc, hzsz, hrun⟩ := append_grow (ty := ty) hs hz hby hb0 hzero hzl hzs hsrc g.mok.pins hroom (hold w.drew g.mok.pins) hbig
    have g1' : Good P G T M1 h1 w.drew := g1.of_heap rfl
    obtain ⟨M', hle', g', hv, hbox', hslot', hst'⟩ := new_row g1' (e := e) (happ.mono hle1) hlen hz hc hzsz
    rw [hcat] at hrun
    exact ⟨_, _, M', hrun, g', (hst1.trans (Stp.of_heap W M1 (w' := w.drew) rfl ⟨rfl, rfl⟩)).trans (hst' W), hv⟩

end
end Am
end
section
namespace Am
open Go Go.Lib

section
variable {P : Program} {G : Nat} {T W : Loc → Prop} {M M' : Mp} {h h' : Heap} {w w' : World}

theorem take_getD {xs : List AV} {len i : Nat} (hi : i < len) : (xs.take len).getD i .junk = xs.getD i .junk := by
  simp [List.getD_eq_getElem?_getD, hi]

/-- a new row of one's own -/
theorem new_own (g : Good P G T M h w) {e : TypeId} {sz len cap : Nat} {xs : List AV} {cv : Nat → Value} {zs : Array Value} (he : Elems P G M sz xs cv) (hl : xs.length = len) (hc : len ≤ cap)
    (hz : zs.size = (cap - len) * sz) :
    ∃ M', M.Le M' ∧ Good P G T M' (h.newSlot (.arr sz xs)) (w.alloc (.cells ((flatC cv sz len).toArray ++ zs) e)) ∧
      VRel P G M' (.oslice h.ns len) (.slice (some ⟨w.heap.size, 0, none⟩) len cap) ∧ M'.box = M.box ∧
      (∀ s r, M'.slot s = .live r → M.slot s = .live r ∨ r.b = w.heap.size) ∧
      ∀ W, Stp W M w M' (w.alloc (.cells ((flatC cv sz len).toArray ++ zs) e)) := by
  let arr : Array Value := (flatC cv sz len).toArray ++ zs
  let w1 := w.alloc (.cells arr e)
  have hsize : arr.size = cap * sz := by
    simp only [arr, Array.size_append, List.size_toArray, flatC_length, hz]
    rw [← Nat.add_mul]; congr 1; omega
  have hheap : w1.heap[w.heap.size]? = some (.cells arr e) := alloc_heap_new _
  have hcell : ∀ o, o < len * sz → w1.cell? ⟨w.heap.size, o, none⟩ = (flatC cv sz len)[o]? := by
    intro o ho
    simp only [World.cell?, hheap]
    simp [arr, Array.getElem?_append, flatC_length, ho]
  have g1 : Good P G T M h w1 := g.alloc _
  have hb : ∀ n, M.box n ≠ some w.heap.size := fun n hn => absurd (g.mok.boxlt n _ hn) (Nat.lt_irrefl _)
  have hs : ∀ s r, M.slot s = .live r → r.b ≠ w.heap.size := fun s r hr e => absurd (g.mok.slotlt s r hr) (by omega)
  let r : SRef := ⟨w.heap.size, 0, cap, sz, 0⟩
  have hle3 : M.Le (M.slotSet h.ns (.live r)) := Mp.new_le (g.fslot _ (Nat.le_refl _))
  have g3 := g1.newSlot (r := r) (x := .arr sz xs) (fun i a h e => by have := g.mok.sents.lt h; simp only [r] at e; omega) (by simp [r, w1]) hb hs (fun j _ _ => by simp only [r, Nat.zero_add]; exact g.mok.pin_new j)
    ⟨r, by simp [Mp.slotSet], arr, e, (0, 0), hheap, by simp only [r]; omega, .inl rfl, rfl, Nat.zero_le _, rfl, rfl, by simp only [r]; omega, cv, fun i hi => by
      obtain ⟨a, b, c⟩ := he.ok i hi
      refine ⟨a, b, c, (he.rel i hi).mono hle3, fun j hj => ?_⟩
      simp only [r] at hj ⊢
      have hlt := idx_lt (hl ▸ hi) hj
      rw [hcell _ hlt, flatC_get cv (hl ▸ hi) hj]⟩
  have hls : ∀ (s : Nat) (r' : SRef), (M.slotSet h.ns (.live r)).slot s = .live r' → M.slot s = .live r' ∨ r'.b = w.heap.size := by
    intro s r' hr
    simp only [Mp.slotSet] at hr
    split at hr
    · cases hr; exact .inr rfl
    · exact .inl hr
  refine ⟨_, hle3, g3, .oslice (by simp [OwnOk, Mp.slotSet, r]) hc, rfl, hls, fun W => ⟨hle3, by simp, fun b hb _ => alloc_heap_old _ hb, fun _ _ h => .inl h, fun s r' hr => ?_, fun _ _ _ h => .inl h, fun s hs => ?_, Nat.le_refl _, ?_, fun s r' hs _ => ?_, ⟨rfl, rfl⟩⟩⟩
  · rcases hls s r' hr with h | h
    · exact .inl h
    · exact .inr (.inl (by omega))
  · simp only [Mp.slotSet] at hs
    split at hs
    · rename_i e; have := g.nseq; exact .inr (by omega)
    · exact .inl hs
  · simp only [Mp.slotSet]; omega
  · simp only [Mp.slotSet]
    split
    · rename_i e; subst e; rw [g.fslot _ (Nat.le_refl _)] at hs; cases hs
    · exact hs

theorem append_own_ok (g : Good P G T M h w) {st xt e ty : TypeId} {sz bytes n len : Nat} {xs ys : List AV} {s x : Value} {z : AV} {zl : List AV} {cvy : Nat → Value}
    (hs : P.underlying st = some (.slice e)) (hz : sizeT P e = some sz) (h0 : sz ≠ 0) (hby : bytesT P e = some bytes) (hb0 : bytes ≠ 0) (hzero : zeroT P e = some z) (hzl : z.cells? = some zl)
    (hzs : zl.length = sz) (hx : VRel P G M (.oslice n len) s) (hsrc : Src P M xt x sz ys.length (flatC cvy sz ys.length).toArray) (hy : Elems P G M sz ys cvy) (hfl : ys.all AV.flatOk = true)
    (hlen : len ≤ xs.length) (hbig : (len + ys.length) * bytes ≤ 140737488355328) (hn : h.slot n = some (.arr sz xs))
    (cov : Cov T W (((h.wrS n).unslot n).newSlot (.arr sz (xs.take len ++ ys)))) :
    SR P G T W M w (.oslice ((h.wrS n).unslot n).ns (len + ys.length)) (((h.wrS n).unslot n).newSlot (.arr sz (xs.take len ++ ys))) (Builtin.append_ #[st, xt] ty #[s, x]) := by
  have hTW := (Cov.of_grow (Grow.newSlot _ _) cov).of_grow (Grow.unslot _ _) |>.of_wrS
  obtain ⟨r, hr, arr, el, fz, k2, k3, k4, k5, k6, k6', k7, k8, cv, k9⟩ := g.slots n _ hTW.1 hn
  subst k6'
  cases hx with
  | @oslice _ _ b o cap ho hcap =>
  simp only [OwnOk, hr] at ho
  obtain ⟨rfl, rfl, rfl⟩ := ho
  have hnu : M.slot n ≠ .unborn := by rw [hr]; simp
  have hl0 : (xs.take len).length = len := by simp; omega
  have hxe : Elems P G M r.sz (xs.take len) cv :=
    ⟨fun i hi => by rw [hl0] at hi; rw [take_getD hi]; exact ⟨(k9 i (by omega)).1, (k9 i (by omega)).2.1, (k9 i (by omega)).2.2.1⟩,
      fun i hi => by rw [hl0] at hi; rw [take_getD hi]; exact (k9 i (by omega)).2.2.2.1⟩
  have happ := hxe.app hy
  rw [hl0] at happ
  have hlen2 : (xs.take len ++ ys).length = len + ys.length := by simp; omega
  have hcat : (flatC cv r.sz len).toArray ++ (flatC cvy r.sz ys.length).toArray = (flatC (fun i => if i < len then cv i else cvy (i - len)) r.sz (len + ys.length)).toArray := by
    rw [List.append_toArray, flatC_app _ _ _ _ _ (by omega)]
  have hcells : ∀ k, k < len * r.sz → w.cell? ⟨r.b, k, none⟩ = some ((flatC cv r.sz len).getD k undef) := by
    intro k hk
    have hq : k / r.sz < len := (Nat.div_lt_iff_lt_mul (by omega)).2 hk
    have hm : k % r.sz < r.sz := Nat.mod_lt _ (by omega)
    have hd : k = (k / r.sz) * r.sz + k % r.sz := by rw [Nat.mul_comm]; exact (Nat.div_add_mod k r.sz).symm
    have h1 := (k9 (k / r.sz) (by omega)).2.2.2.2 (k % r.sz) hm
    rw [← hd] at h1
    rw [h1, List.getD_eq_getElem?_getD]
    conv => rhs; rw [hd]
    rw [flatC_get _ hq hm]
    rfl
  have hold : ∀ w1 : World, w1.heap[r.b]? = w.heap[r.b]? → (Builtin.firstCells r.sz len (.slice (some ⟨r.b, r.o, none⟩) len r.cap)).run P w1 = .ok (flatC cv r.sz len).toArray w1 := by
    intro w1 hw1
    simp only [Builtin.firstCells]
    rw [k5, run_loadCells (f := fun k => (flatC cv r.sz len).getD k undef) (fun j hj => by rw [Nat.zero_add, cell_of_heap hw1]; exact hcells j hj)]
    congr 2
    apply List.ext_getElem
    · simp [flatC_length]
    · intro i h1 h2
      simp [List.getD_eq_getElem?_getD, h2]
  have hleA : M.Le (M.slotSet n .dead) := Mp.kill_le hnu
  by_cases hroom : len + ys.length ≤ r.cap
  · have hcapsz : (len + ys.length) * r.sz ≤ r.cap * r.sz := Nat.mul_le_mul_right _ hroom
    rw [Nat.add_mul] at hcapsz
    rw [k7, Nat.zero_mul] at k4
    have s1 : ∀ j, w.frozen? ⟨r.b, r.o + len * r.sz + 0 + j, none⟩ = false := by
      intro j
      simp only [World.frozen?, k2, Bool.and_eq_false_iff, decide_eq_false_iff_not]
      omega
    obtain ⟨w', q1, q2, q3⟩ := run_storeCells (P := P) (o := r.o + len * r.sz) (flatC cvy r.sz ys.length) 0 w arr k2 (fun j _ => s1 j) (by rw [flatC_length]; omega) (flat_one (by omega) hy hfl)
    have q3 : w'.heap[r.b]? = some (.cells (putV arr (len * r.sz) (flatC cvy r.sz ys.length)) el fz) := by simpa [k5] using q3
    have hcell' : ∀ i j, i < len + ys.length → j < r.sz → w'.cell? ⟨r.b, i * r.sz + j, none⟩ = some ((if i < len then cv i else cvy (i - len)).cells.getD j undef) := by
      intro i j hi hj
      have hlt := idx_lt hi hj
      rw [Nat.add_mul] at hlt
      simp only [World.cell?, q3, Option.isSome_none, Bool.false_eq_true, if_false]
      rw [putV_get _ _ _ _ (by rw [flatC_length]; omega) (by omega)]
      by_cases hix : i < len
      · have h1 := idx_lt hix hj
        rw [if_neg (by omega)]
        simp only [hix, if_true]
        have := hcells _ h1
        simp only [World.cell?, k2, Option.isSome_none, Bool.false_eq_true, if_false] at this
        rw [this, List.getD_eq_getElem?_getD, flatC_get cv hix hj]
        rfl
      · have h1 : len * r.sz ≤ i * r.sz := Nat.mul_le_mul_right _ (Nat.le_of_not_lt hix)
        rw [if_pos (by rw [flatC_length]; omega)]
        simp only [hix, if_false]
        have h2 : i * r.sz + j - len * r.sz = (i - len) * r.sz + j := by rw [Nat.sub_mul]; omega
        rw [h2, flatC_get cvy (by omega) hj]
    have hpin : ∀ k v, M.pin r.b k = some v → ¬ k < r.cap * r.sz := by
      intro k v hv hk
      have := g.mok.slotpin n r k hr (by rw [k7]; omega) hk
      rw [k5, Nat.zero_add] at this
      rw [this] at hv; cases hv
    have gK := (g.wrS n).kill hnu
    have gA : Good P G T (M.slotSet n .dead) ((h.wrS n).unslot n) w' := {
      mok := ⟨fun c i v hv => by
          by_cases e : c = r.b
          · subst e
            have h1 := g.mok.pins _ _ _ hv
            have h2 := hpin i v hv
            simp only [World.cell?, k2, Option.isSome_none, Bool.false_eq_true, if_false] at h1
            have hia : i < arr.size := by
              rcases Nat.lt_or_ge i arr.size with h | h
              · exact h
              · simp [Array.getElem?_eq_none h] at h1
            simp only [World.cell?, q3, Option.isSome_none, Bool.false_eq_true, if_false]
            rw [putV_get _ _ _ _ (by rw [flatC_length]; omega) hia, if_neg (by rw [flatC_length]; omega)]
            exact h1
          · rw [cell_of_heap (q2.other c e)]; exact gK.mok.pins c i v hv,
        fun m c hc => by rw [q2.size]; exact gK.mok.boxlt m c hc, gK.mok.boxinj, gK.mok.boxpin,
        fun m c hc => (gK.mok.boxobj m c hc).keep (q2.other c (by rintro rfl; exact g.mok.slotbox n r m hr hc)),
        fun s r' hr' => by rw [q2.size]; exact gK.mok.slotlt s r' hr', gK.mok.slotbox, gK.mok.slotinj, gK.mok.slotpin,
        gK.mok.sents.step rfl (fun i a h => q2.other a.block (by rintro e; exact g.mok.sents.slot i a n r h hr e.symm)) (fun _ _ h => .inl h) (fun s r h => .inl ⟨s, r, h, rfl⟩)⟩
      glob := gK.glob
      gle := gK.gle
      nbeq := gK.nbeq
      nseq := gK.nseq
      hok := gK.hok
      fbox := gK.fbox
      fslot := gK.fslot
      boxes := fun m o ht hx => by
        obtain ⟨c, hc, ho⟩ := gK.boxes m o ht hx
        exact ⟨c, hc, ho.keep (.refl _) (q2.other c (by rintro rfl; exact g.mok.slotbox n r m hr hc))⟩
      slots := fun s x ht hx => by
        refine (gK.slots s x ht hx).keep (.refl _) rfl (fun r' hr' => q2.other _ ?_)
        intro e'
        simp only [Mp.slotSet] at hr'
        split at hr'
        · cases hr'
        · rename_i hsn; exact hsn (g.mok.slotinj s n r' r hr' hr e') }
    have hsl : ∀ s r', (M.slotSet n .dead).slot s = .live r' → r'.b ≠ r.b := by
      intro s r' hs' e'
      simp only [Mp.slotSet] at hs'
      split at hs'
      · cases hs'
      · rename_i hsn; exact hsn (g.mok.slotinj s n r' r hs' hr e')
    let r2 : SRef := ⟨r.b, 0, r.cap, r.sz, 0⟩
    have hleC : (M.slotSet n .dead).Le ((M.slotSet n .dead).slotSet ((h.wrS n).unslot n).ns (.live r2)) := Mp.new_le (gA.fslot _ (Nat.le_refl _))
    have hle := hleA.trans hleC
    have gD := gA.newSlot (r := r2) (x := .arr r.sz (xs.take len ++ ys)) (fun i a h => g.mok.sents.slot i a n r h hr) (by simp only [r2]; rw [q2.size]; exact g.mok.slotlt n r hr) (fun m => g.mok.slotbox n r m hr) hsl (fun j _ h2 => by
        simp only [r2] at h2
        have := g.mok.slotpin n r j hr (by rw [k7]; omega) h2
        rw [k5, Nat.zero_add] at this
        simpa [r2, Mp.slotSet] using this) ⟨r2, by simp [Mp.slotSet], _, el, fz, q3, by rw [putV_size]; exact k3, by
        rcases k4 with h | h
        · exact .inl h
        · right; simp only [r2, Nat.zero_mul]; exact h, rfl, Nat.zero_le _, rfl, rfl, by rw [hlen2]; exact hroom, _, fun i hi => by
          obtain ⟨a, b, c⟩ := happ.ok i hi
          exact ⟨a, b, c, (happ.rel i hi).mono hle, fun j hj => hcell' i j (by rw [hlen2] at hi; exact hi) hj⟩⟩
    have hrun := append_room (ty := ty) hs hz hsrc g.mok.pins hroom (by simpa using q1)
    refine ⟨_, _, _, hrun, gD, ⟨hle, by rw [q2.size]; exact Nat.le_refl _, fun c _ hc => q2.other c (by rintro rfl; exact hc (.inr ⟨n, r, hTW.2, hr, rfl⟩)), fun k c hk => .inl hk, fun s r' hs' => ?_, fun _ _ _ h => .inl h, fun s hs' => ?_, Nat.le_refl _, by simp only [Mp.slotSet]; omega, fun s r' hs' hw => ?_, q2.io⟩, ?_⟩
    · simp only [Mp.slotSet] at hs'
      split at hs'
      · cases hs'; exact .inr (.inr ⟨n, r, hTW.2, hr, rfl⟩)
      · split at hs'
        · cases hs'
        · exact .inl hs'
    · simp only [Mp.slotSet] at hs'
      split at hs'
      · rename_i e; have := g.nseq; exact .inr (by rw [e]; simp [Heap.unslot]; omega)
      · split at hs'
        · rename_i e; subst e; exact .inl hnu
        · exact .inl hs'
    · simp only [Mp.slotSet]
      split
      · rename_i e
        have hu : M.slot s = .unborn := g.fslot s (by rw [e]; simp [Heap.unslot])
        rw [hs'] at hu; cases hu
      · split
        · rename_i e; subst e; exact absurd hTW.2 hw
        · exact hs'
    · exact .oslice (by simp [OwnOk, Mp.slotSet, r2, k5]) hroom
  · obtain ⟨newCap, zs, hc, hzsz, hrun⟩ := append_grow (ty := ty) hs hz hby hb0 hzero hzl hzs hsrc g.mok.pins hroom (hold w.drew rfl) hbig
    have gK := (g.wrS n).kill hnu
    have g1' : Good P G T (M.slotSet n .dead) ((h.wrS n).unslot n) w.drew := gK.of_heap rfl
    obtain ⟨M', hle', g', hv, hbox', hslot', hst'⟩ := new_own g1' (e := e) (happ.mono (Mp.kill_le hnu)) hlen2 hc hzsz
    rw [hcat] at hrun
    exact ⟨_, _, M', hrun, g', ((Stp.kill (w := w) hnu hTW.2).trans (Stp.of_heap W _ (w := w) (w' := w.drew) rfl ⟨rfl, rfl⟩)).trans (hst' W), hv⟩

end
end Am
end
section
namespace Am
open Go Go.Lib

section
variable {P : Program} {G : Nat} {T W : Loc → Prop} {M M' : Mp} {h h' : Heap} {w w' : World}

theorem elemsOf_get {agg : Bool} {n sz : Nat} {cs : List AV} {i : Nat} (hi : i < n) :
    (elemsOf agg n sz cs).getD i .junk = if agg then .agg ((cs.drop (i * sz)).take sz) else cs.getD (i * sz) .junk := by
  simp [elemsOf, List.getD_eq_getElem?_getD, hi]

theorem strip_scalar (x : AV) : x.strip.scalar = x.scalar := by cases x <;> simp [AV.strip, AV.scalar]

theorem scalar_cells {v : Value} (h : v.oneCell' = true) : v.cells = #[v] := by cases v <;> first | rfl | simp [Value.oneCell'] at h

theorem scalar_some {x : AV} (h : x.scalar = true) : x.cells?.isSome = true := by cases x <;> simp_all [AV.cells?, AV.scalar]

theorem elems_of_row {agg : Bool} {n sz : Nat} {cs : List AV} {vs : Array Value} (hl : LRel P G M cs vs) (hn : cs.length = n * sz) (h0 : sz ≠ 0) (h1 : agg = false → sz = 1)
    (hnf : nfL G 0 (stripL (elemsOf agg n sz cs)) = true) (hc : agg = false → (stripL (elemsOf agg n sz cs)).all AV.scalar = true) :
    ∃ cv, Elems P G M sz (stripL (elemsOf agg n sz cs)) cv ∧ flatC cv sz n = vs.toList := by
  have hlen : (stripL (elemsOf agg n sz cs)).length = n := by rw [stripL_length]; simp [elemsOf]
  let cv : Nat → Value := fun i => if agg then .agg (vs.extract (i * sz) (i * sz + sz)) else vs.getD (i * sz) undef
  have hsz : vs.size = n * sz := by rw [hl.1, hn]
  have hle : ∀ i, i < n → i * sz + sz ≤ n * sz := by
    intro i hi
    have : (i + 1) * sz ≤ n * sz := Nat.mul_le_mul_right _ hi
    rwa [Nat.succ_mul] at this
  have hrel : ∀ i, i < n → VRel P G M ((elemsOf agg n sz cs).getD i .junk) (cv i) := by
    intro i hi
    have := hle i hi
    rw [elemsOf_get hi]
    cases agg with
    | true => exact (hl.extract (i * sz) sz (by omega)).agg
    | false => exact hl.2 _ (by omega)
  have hscal : agg = false → ∀ i, i < n → ((elemsOf agg n sz cs).getD i .junk).scalar = true := by
    intro ha i hi
    have hc' := hc ha
    rw [List.all_eq_true] at hc'
    have hi' : i < (stripL (elemsOf agg n sz cs)).length := by omega
    have := hc' _ (List.getElem_mem hi')
    have e : (stripL (elemsOf agg n sz cs))[i] = ((elemsOf agg n sz cs).getD i .junk).strip := by
      rw [← stripL_getD, List.getD_eq_getElem?_getD, List.getElem?_eq_getElem hi']
      rfl
    rwa [e, strip_scalar] at this
  have hcv : ∀ i, i < n → (cv i).cells.size = sz ∧ ∀ j, j < sz → (cv i).cells.getD j undef = vs.getD (i * sz + j) undef := by
    intro i hi
    have h4 := hle i hi
    cases hagg : agg with
    | true =>
      simp only [cv, hagg, if_true, Value.cells]
      refine ⟨by simp; omega, fun j hj => ?_⟩
      have h2 : j < min (i * sz + sz) vs.size - i * sz := by omega
      have h3 : i * sz + j < vs.size := by omega
      simp [Array.getD, h2, h3]
    | false =>
      have := h1 hagg
      subst this
      have h5 := scalar_cells (scalar_rel (hrel i hi) (hscal hagg i hi))
      have h6 : cv i = vs.getD (i * 1) undef := by simp only [cv, hagg, Bool.false_eq_true, if_false]
      rw [h5]
      refine ⟨rfl, fun j hj => ?_⟩
      have hj0 : j = 0 := by omega
      subst hj0
      rw [h6]
      simp [Array.getD]
  refine ⟨cv, ⟨fun i hi => ?_, fun i hi => ?_⟩, ?_⟩
  · have hi' : i < n := by omega
    refine ⟨(hcv i hi').1, ?_, nfL_get hnf hi⟩
    rw [stripL_getD, strip_cells]
    cases ha : agg with
    | true => rw [ha] at *; rw [elemsOf_get hi']; rfl
    | false => exact scalar_some (by have := hscal ha i hi'; rwa [ha] at this)
  · rw [stripL_getD]; exact (hrel i (by omega)).strip
  · apply List.ext_getElem?
    intro k
    by_cases hk : k < n * sz
    · have hq : k / sz < n := (Nat.div_lt_iff_lt_mul (by omega)).2 hk
      have hm : k % sz < sz := Nat.mod_lt _ (by omega)
      have hd : k = (k / sz) * sz + k % sz := by rw [Nat.mul_comm]; exact (Nat.div_add_mod k sz).symm
      have h3 := (hcv _ hq).2 _ hm
      rw [← hd] at h3
      conv => lhs; rw [hd]
      rw [flatC_get _ hq hm, h3]
      have h4 : k < vs.size := by omega
      simp [Array.getD, h4]
    · rw [List.getElem?_eq_none (by rw [flatC_length]; omega), List.getElem?_eq_none (by simp; omega)]

theorem fillA_length {env : Env} : ∀ {ps : List (Nat × Nat × AO)} {cs cs' : List AV}, fillA env cs ps = some cs' → cs'.length = cs.length
  | [], cs, cs', h => by simp only [fillA, Option.some.injEq] at h; rw [h]
  | (off, sz, x) :: ps, cs, cs', h => by
    simp only [fillA] at h
    cases hc : (x.ev env).cells? with
    | none => simp [hc] at h
    | some vs =>
      simp only [hc] at h
      split at h
      · rw [fillA_length h, putCells_length]
      · cases h

theorem bslice_run {env : Env} {a : Act} (hg : Glob P M) (he : ERel P G M env a.tmps) {t e : TypeId} {n s : Nat} {z : AV} {zc cs : List AV} {ps : Array (Nat × Operand)}
    {aps : List (Nat × Nat × AO)} (hu : P.underlying t = some (.slice e)) (hs : sizeT P e = some s) (hz : zeroT P e = some z) (hzc : z.cells? = some zc) (hzl : zc.length = s) (h0 : s ≠ 0)
    (hbig : n * s ≤ 1000000) (ht : trParts P (fun i => if i < n then some (i * s, s) else none) ps = some aps) (hf : fillA env (repl n zc) aps = some cs) :
    ∃ vs, LRel P G M cs vs ∧ cs.length = n * s ∧ (Instr.buildSlice t n (ps.map fun (i, x) => (i, a.eval x))).run P w =
      .ok (.slice (some ⟨w.heap.size, 0, none⟩) n n) (w.alloc (.cells vs e)) := by
  obtain ⟨c, h1, h2⟩ := zeroT_run hz w
  have hl := cells_rel (cv_rel (P := P) (G := G) (M := M) h2) hzc
  have hzr := zeros_rel hl (n := n) hzl (by omega)
  have hp := trParts_rel hg he ht
  have hp' : F2 (fun ap p => (fun i => some (i * s, s)) p.1 = some (ap.1, ap.2.1) ∧ VRel P G M (ap.2.2.ev env) p.2) aps ((ps.map fun (i, x) => (i, a.eval x)).toList) := by
    refine hp.imp fun ap p hh => ⟨?_, hh.2⟩
    have := hh.1
    split at this
    · exact this
    · cases this
  obtain ⟨vs, h3, h4⟩ := fill_rel (place := fun i => some (i * s, s)) hp' hzr hf
  have hlen : cs.length = n * s := by rw [fillA_length hf, repl_length, hzl]
  refine ⟨vs, h4, hlen, ?_⟩
  have hb : ¬ n * s > 2 ^ 24 := by omega
  simp only [Instr.buildSlice, Sem.run_bind, run_underlying hu, Result.andThen_ok, sizeT_run hs, Sem.run_ite, hb, if_false, Sem.run_pure]
  by_cases hn : n * s = 0
  · have hn0 : n = 0 := by
      rcases Nat.mul_eq_zero.1 hn with h | h
      · exact h
      · exact absurd h h0
    subst hn0
    have e0 : ∀ f : Nat → Value, (Array.range 0).map f = #[] := fun f => by simp [Array.range]
    simp only [hn, if_true]
    simp only [Nat.zero_mul, e0] at h3 ⊢
    rw [h3]
    rfl
  · have hcs : c.cells.size = s := by rw [hl.1, hzl]
    simp only [hn, if_false, h1, Result.andThen_ok]
    rw [hcs, h3]
    rfl

theorem bslice_own_ok (g : Good P G T M h w) {env : Env} {a : Act} (he : ERel P G M env a.tmps) {t e : TypeId} {n s : Nat} {z : AV} {zc cs : List AV} {ps : Array (Nat × Operand)}
    {aps : List (Nat × Nat × AO)} (hu : P.underlying t = some (.slice e)) (hs : sizeT P e = some s) (hz : zeroT P e = some z) (hzc : z.cells? = some zc) (hzl : zc.length = s) (h0 : s ≠ 0)
    (hbig : n * s ≤ 1000000) (ht : trParts P (fun i => if i < n then some (i * s, s) else none) ps = some aps) (hf : fillA env (repl n zc) aps = some cs) (h1 : isAggT P e = false → s = 1)
    (hnf : nfL G 0 (stripL (elemsOf (isAggT P e) n s cs)) = true) (hc : (isAggT P e || (stripL (elemsOf (isAggT P e) n s cs)).all AV.scalar) = true) :
    SR P G T W M w (.oslice h.ns n) (h.newSlot (.arr s (stripL (elemsOf (isAggT P e) n s cs)))) (Instr.buildSlice t n (ps.map fun (i, x) => (i, a.eval x))) := by
  obtain ⟨vs, hl, hlen, hrun⟩ := bslice_run (w := w) g.glob he hu hs hz hzc hzl h0 hbig ht hf
  obtain ⟨cv, hE, hflat⟩ := elems_of_row hl hlen h0 h1 hnf (fun ha => by simpa [ha] using hc)
  have hxl : (stripL (elemsOf (isAggT P e) n s cs)).length = n := by rw [stripL_length]; simp [elemsOf]
  obtain ⟨M', hle, g', hv, hbox, hslot, hst⟩ := new_own g (e := e) (zs := #[]) hE hxl (Nat.le_refl n) (by simp)
  have harr : (flatC cv s n).toArray ++ #[] = vs := by rw [hflat]; simp
  rw [harr] at g' hst
  exact ⟨_, _, M', hrun, g', hst W, hv⟩

theorem bslice_ok (g : Good P G T M h w) {env : Env} {a : Act} (he : ERel P G M env a.tmps) {t e : TypeId} {n s : Nat} {z : AV} {zc cs : List AV} {ps : Array (Nat × Operand)}
    {aps : List (Nat × Nat × AO)} (hu : P.underlying t = some (.slice e)) (hs : sizeT P e = some s) (hz : zeroT P e = some z) (hzc : z.cells? = some zc) (hzl : zc.length = s) (h0 : s ≠ 0)
    (hbig : n * s ≤ 1000000) (ht : trParts P (fun i => if i < n then some (i * s, s) else none) ps = some aps) (hf : fillA env (repl n zc) aps = some cs) (h1 : isAggT P e = false → s = 1)
    (hnf : nfL G 0 (stripL (elemsOf (isAggT P e) n s cs)) = true) (hc : (isAggT P e || (stripL (elemsOf (isAggT P e) n s cs)).all AV.scalar) = true) :
    SR P G T W M w (.slice (stripL (elemsOf (isAggT P e) n s cs)) .full) h (Instr.buildSlice t n (ps.map fun (i, x) => (i, a.eval x))) := by
  obtain ⟨vs, hl, hlen, hrun⟩ := bslice_run (w := w) g.glob he hu hs hz hzc hzl h0 hbig ht hf
  obtain ⟨cv, hE, hflat⟩ := elems_of_row hl hlen h0 h1 hnf (fun ha => by simpa [ha] using hc)
  have hxl : (stripL (elemsOf (isAggT P e) n s cs)).length = n := by rw [stripL_length]; simp [elemsOf]
  generalize stripL (elemsOf (isAggT P e) n s cs) = xs at hE hxl ⊢
  refine ⟨_, _, _, hrun, g.addPins vs e (0, 0), Stp.addPins W g.mok vs e (0, 0), ?_⟩
  have hle := Mp.addPins_le (arr := fun o => vs[o]?) g.mok.pin_new
  subst hxl
  refine .slice cv hE.ok (fun i hi j hj => ?_) (fun i hi => (hE.rel i hi).mono hle) (Nat.le_refl _) rfl
  simp only [Mp.addPins, if_true, Nat.zero_add]
  have := flatC_get cv hi hj
  rw [hflat] at this
  simpa using this

theorem map_byteA_get {l : List UInt8} {i : Nat} (hi : i < l.length) : (l.map byteA).getD i .junk = byteA (l.getD i 0) := by
  simp [List.getD_eq_getElem?_getD, hi]

theorem conv_s2b_ok (g : Good P G T M h w) {src dst e : TypeId} {s : List UInt8} {c : Value} (hs : P.underlying src = some .string) (hd : P.underlying dst = some (.slice e))
    (he : P.underlying e = some (.int .u8)) (hx : VRel P G M (.str s) c) : SR P G T W M w (.slice (s.map byteA) .ro) h (convert src dst c) := by
  obtain ⟨a, rfl, rfl⟩ := vr_str hx
  let cap := (Question.appendCap a.size 0 e).cut (w.tape w.drawn (.appendCap a.size 0 e))
  have hcap : a.size ≤ cap := grownCap_ge w a.size 0 e
  let arr : Array Value := (a.data.map fun b => Value.int .u8 b.toNat) ++ Array.replicate (cap - a.size) (.int .u8 0)
  have hasz : arr.size = cap := by
    have : a.data.size = a.size := rfl
    simp [arr, this]; omega
  have hrun : (convert src dst (.string a)).run P w = .ok (.slice (some ⟨w.heap.size, 0, none⟩) a.size cap) ((w.drew.alloc (.cells arr e)).freeze ⟨w.heap.size, arr.size, none⟩ 1) := by
    simp only [convert, Sem.run_bind, run_underlying hs, run_underlying hd, Result.andThen_ok, run_underlying he, Conv.stringToBytes, run_choose, Question.forced, Bool.false_eq_true, if_false,
      World.drew_eq, newRow, run_newObj, World.alloc_eq, Sem.run_pure, World.size_drew, markStringish, run_shape]
    have hsh : (w.drew.alloc (.cells arr e)).shape? w.heap.size = some (e, arr.size) := by
      have := alloc_heap_new (w := w.drew) (.cells arr e)
      simp only [World.size_drew] at this
      simp only [World.shape?, this]
    simp only [arr, cap] at hsh ⊢
    rw [hsh]
    rfl
  have hheap : ((w.drew.alloc (.cells arr e)).freeze ⟨w.heap.size, arr.size, none⟩ 1).heap = (w.alloc (.cells arr e (arr.size, arr.size + 1))).heap := by
    have h1 := alloc_heap_new (w := w.drew) (.cells arr e)
    simp only [World.size_drew] at h1
    apply Array.ext_getElem?
    intro i
    by_cases hi : i = w.heap.size
    · subst hi
      rw [freeze_cells h1 (by omega), alloc_heap_new]
      simp
    · rw [(OneBlock.freeze _ w.heap.size arr.size 1).other i hi]
      simp only [World.alloc, World.drew, Array.getElem?_push, hi, if_false]
  have g1 := (g.addPins arr e (arr.size, arr.size + 1)).of_heap hheap
  have hle := Mp.addPins_le (arr := fun o => arr[o]?) g.mok.pin_new
  have hio : SameIO (w.alloc (.cells arr e (arr.size, arr.size + 1))) ((w.drew.alloc (.cells arr e)).freeze ⟨w.heap.size, arr.size, none⟩ 1) := (OneBlock.freeze (w.drew.alloc (.cells arr e)) w.heap.size arr.size 1).io
  have hst := (Stp.addPins W g.mok arr e (arr.size, arr.size + 1)).trans (Stp.of_heap W _ hheap hio)
  refine ⟨_, _, _, hrun, g1, hst, ?_⟩
  have hl : (a.data.toList.map byteA).length = a.size := by simp
  have hb := fun (i : Nat) (hi : i < (a.data.toList.map byteA).length) => map_byteA_get (l := a.data.toList) (i := i) (by simpa using hi)
  have harr : ∀ i, i < (a.data.toList.map byteA).length → arr[i]? = some (.int .u8 (a.data.toList.getD i 0).toNat) := by
    intro i hi
    have hi' : i < a.data.size := by simpa using hi
    have hi2 : i < a.size := hi'
    simp [arr, Array.getElem?_append, hi', hi2, List.getD_eq_getElem?_getD]
  have := VRel.slice (P := P) (G := G) (M := M.addPins w.heap.size fun o => arr[o]?) (xs := a.data.toList.map byteA) (p := .ro) (b := w.heap.size) (o := 0) (cap := cap) (sz := 1)
    (fun i => .int .u8 (a.data.toList.getD i 0).toNat) (fun i hi => by rw [hb i hi]; exact ⟨rfl, rfl, rfl⟩) (fun i hi j hj => by
      have hj0 : j = 0 := by omega
      subst hj0
      simp only [Mp.addPins, if_true, Nat.zero_add, Nat.mul_one, Nat.add_zero]
      exact harr i hi) (fun i hi => by rw [hb i hi]; exact .int) (by rw [hl]; exact hcap) trivial
  rw [hl] at this
  exact this

end
end Am
end
section
namespace Am
open Go Go.Lib

section
variable {P : Program} {G : Nat} {T W : Loc → Prop} {M M' : Mp} {h h' : Heap} {w w' : World}

theorem run_getObj {b : Nat} {o : Go.Obj} (hb : w.heap[b]? = some o) (hn : ∀ a e f, o ≠ .cells a e f) : (getObj b).run P w = .ok o w := by
  cases o <;> first | (simp only [getObj, Sem.run, hb]; done) | exact absurd rfl (hn _ _ _)

theorem run_setObj {b : Nat} {o o' : Go.Obj} (hb : w.heap[b]? = some o) (hn : ∀ a e f, o ≠ .cells a e f) :
    (setObj b o').run P w = .ok () { w with heap := w.heap.setIfInBounds b o' } := by
  cases o <;> first | (simp only [setObj, Sem.run, hb]; done) | exact absurd rfl (hn _ _ _)

theorem mkmap_ok (g : Good P G T M h w) {t : TypeId} : SR P G T W M w (.map h.nb) (h.push (.amap [])) (Instr.makeMap t none) := by
  refine ⟨.map (some w.heap.size), w.alloc (.map #[] 0), M.addBox h.nb w.heap.size, rfl, ?_, Stp.addBox W (g.fbox _ (Nat.le_refl _)) g.nbeq.symm _, .map (by simp [Mp.addBox])⟩
  exact g.addBox _ _ ⟨#[], 0, alloc_heap_new _, rfl, fun i e h => by simp at h⟩ (by simp)

/-- keys that are numbers or texts -/
def KeyOf (P : Program) (t : TypeId) (k : Nat) : Prop := (k = 1 ∧ ∃ j, P.underlying t = some (.int j)) ∨ (k = 2 ∧ P.underlying t = some .string)

theorem checkKey_ok {e : Bool} {n k : Nat} {t : TypeId} {c : Value} (hk : KeyOf P t k) : (Instr.checkKey e (n + 1) t c).run P w = .ok () w := by
  rcases hk with ⟨_, j, hu⟩ | ⟨_, hu⟩ <;> simp only [Instr.checkKey, Sem.run_bind, run_underlying hu, Result.andThen_ok, Sem.run_pure]

theorem sameNow_ok {k : Nat} {t : TypeId} {d : TypeDesc} {x y : AV} {a b : Value} {r : Bool} (hd : P.underlying t = some d) (hk : KeyOf P t k) (hx : VRel P G M x a) (hy : VRel P G M y b)
    (e : eqK k x y = some r) : Instr.sameNow d a b = some r := by
  rcases hk with ⟨rfl, j, hu⟩ | ⟨rfl, hu⟩ <;> (rw [hd] at hu; cases hu)
  · cases x <;> cases y <;> simp only [eqK, reduceCtorEq] at e
    split at e
    · rename_i h; subst h
      cases vr_int hx; cases vr_int hy
      simp only [Option.some.injEq] at e
      simp [Instr.sameNow, e]
    · cases e
  · cases x <;> cases y <;> simp only [eqK, reduceCtorEq, Option.some.injEq] at e
    obtain ⟨a', rfl, rfl⟩ := vr_str hx
    obtain ⟨b', rfl, rfl⟩ := vr_str hy
    simp [Instr.sameNow, beq_data, e]

theorem findNow_ok {k : Nat} {t : TypeId} {d : TypeDesc} {x : AV} {a : Value} (hd : P.underlying t = some d) (hk : KeyOf P t k) (hx : VRel P G M x a) :
    ∀ {es : List (AV × AV)} {ents : List MapEntry} (i : Nat), F2 (fun e c => VRel P G M e.1 c.key ∧ VRel P G M e.2 c.val) es ents → ∀ {r}, findKey k x es = some r →
    (r = none ∧ Instr.findNow d a ents i = some none) ∨ ∃ v j c, r = some v ∧ Instr.findNow d a ents i = some (some (j, c)) ∧ VRel P G M v c
  | [], [], i, .nil, r, h => by
    simp only [findKey, Option.some.injEq] at h; subst h
    exact .inl ⟨rfl, rfl⟩
  | e :: es, c :: ents, i, .cons he hr, r, h => by
    obtain ⟨k', v⟩ := e
    simp only [findKey] at h
    cases hq : eqK k x k' with
    | none => simp [hq] at h
    | some b =>
      have hs := sameNow_ok hd hk hx he.1 hq
      cases b with
      | true =>
        simp only [hq, Option.some.injEq] at h; subst h
        exact .inr ⟨v, i, c.val, rfl, by simp [Instr.findNow, hs], he.2⟩
      | false =>
        simp only [hq] at h
        have := findNow_ok hd hk hx (i + 1) hr h
        simpa [Instr.findNow, hs] using this

theorem findKey_run {k : Nat} {t : TypeId} {x : AV} {a : Value} {es : List (AV × AV)} {ents : List MapEntry} {r : Option AV} (hk : KeyOf P t k) (hx : VRel P G M x a)
    (he : F2 (fun e c => VRel P G M e.1 c.key ∧ VRel P G M e.2 c.val) es ents) (h : findKey k x es = some r) :
    (r = none ∧ (Instr.findKey t a ents).run P w = .ok none w) ∨ ∃ v j c, r = some v ∧ (Instr.findKey t a ents).run P w = .ok (some (j, c)) w ∧ VRel P G M v c := by
  have : ∃ d, P.underlying t = some d := by rcases hk with ⟨_, j, hu⟩ | ⟨_, hu⟩ <;> exact ⟨_, hu⟩
  obtain ⟨d, hd⟩ := this
  rcases findNow_ok hd hk hx 0 he h with ⟨h1, h2⟩ | ⟨v, j, c, h1, h2, h3⟩
  · exact .inl ⟨h1, by simp only [Instr.findKey, Sem.run_bind, run_underlying hd, Result.andThen_ok, h2, Sem.run_pure]⟩
  · exact .inr ⟨v, j, c, h1, by simp only [Instr.findKey, Sem.run_bind, run_underlying hd, Result.andThen_ok, h2, Sem.run_pure], h3⟩

theorem amap_f2 {es : List (AV × AV)} {ents : Array MapEntry} (hl : ents.size = es.length)
    (h : ∀ (i : Nat) (e : AV × AV), es[i]? = some e → ∃ c : MapEntry, ents[i]? = some c ∧ VRel P G M e.1 c.key ∧ VRel P G M e.2 c.val) :
    F2 (fun e c => VRel P G M e.1 c.key ∧ VRel P G M e.2 c.val) es ents.toList := by
  have : ∀ (es : List (AV × AV)) (l : List MapEntry), l.length = es.length →
      (∀ (i : Nat) (e : AV × AV), es[i]? = some e → ∃ c : MapEntry, l[i]? = some c ∧ VRel P G M e.1 c.key ∧ VRel P G M e.2 c.val) →
      F2 (fun e c => VRel P G M e.1 c.key ∧ VRel P G M e.2 c.val) es l := by
    intro es
    induction es with
    | nil => intro l hl _; cases l with | nil => exact .nil | cons => simp at hl
    | cons e es ih =>
      intro l hl h
      cases l with
      | nil => simp at hl
      | cons c l =>
        obtain ⟨c', h1, h2⟩ := h 0 e rfl
        simp at h1; subst h1
        exact .cons h2 (ih l (by simpa using hl) (fun i e' he => by simpa using h (i + 1) e' (by simpa using he)))
  exact this es ents.toList (by simpa using hl) (fun i e he => by simpa using h i e he)

theorem insert_ok (g : Good P G T M h w) {t kt et : TypeId} {kk n : Nat} {es : List (AV × AV)} {k v : AV} {cm ck cvv : Value} (hu : P.underlying t = some (.map kt et)) (hk : KeyOf P kt kk)
    (hm : VRel P G M (.map n) cm) (hkr : VRel P G M k ck) (hvr : VRel P G M v cvv) (hg : h.get n = some (.amap es)) (hf : findKey kk k es = some none)
    (cv : Cov T W ((h.wr n).put n (.amap (es ++ [(k, v)])))) :
    ∃ w', (Instr.mapUpdate t cm ck cvv).run P w = .ok () w' ∧ Good P G T M ((h.wr n).put n (.amap (es ++ [(k, v)]))) w' ∧ Stp W M w M w' := by
  obtain ⟨hT, hW⟩ := (cv.of_grow (Grow.put _ _ _)).of_wr
  obtain ⟨b, hb, ents, clock, h1, h2, h3⟩ := g.boxes n _ hT hg
  cases hm with | map hb' =>
  rw [hb] at hb'; cases hb'
  have hf2 := amap_f2 h2 h3
  rcases findKey_run (w := w) hk hkr hf2 hf with ⟨_, hrun⟩ | ⟨_, _, _, hc, _⟩
  · let o' : Go.Obj := .map (ents.push { key := ck, val := cvv, born := clock }) (clock + 1)
    have hob := OneBlock.setObj w b o'
    have hlt := g.mok.boxlt n b hb
    have hnew : ({ w with heap := w.heap.setIfInBounds b o' } : World).heap[b]? = some o' := by simp [hlt]
    refine ⟨_, ?_, (g.wr n).put hb (by simpa using hg) (g.mok.nopin h1 (by simp)) hob _ ⟨_, _, hnew, by simp [h2], fun i e he => ?_⟩ (by simp), Stp.put hW hb hob⟩
    · have hck : (Instr.checkKey false 10000 kt ck).run P w = .ok () w := checkKey_ok (n := 9999) hk
      simp only [Instr.mapUpdate, Sem.run_bind, run_underlying hu, Result.andThen_ok, run_getObj h1 (by simp), hck, hrun, run_setObj h1 (by simp), o']
    · by_cases hi : i < es.length
      · rw [List.getElem?_append_left hi] at he
        obtain ⟨c, hc, hr⟩ := h3 i e he
        refine ⟨c, ?_, hr⟩
        have : i < ents.size := by omega
        rw [Array.getElem?_push_lt this]
        simpa [this] using hc
      · have : i = es.length := by
          have := (List.getElem?_eq_some_iff.1 he).1
          simp at this
          omega
        subst this
        simp at he; subst he
        exact ⟨{ key := ck, val := cvv, born := clock }, by rw [← h2]; simp, hkr, hvr⟩
  · cases hc

theorem lookup_ok (g : Good P G T M h w) {t kt et : TypeId} {kk n : Nat} {es : List (AV × AV)} {k z v : AV} {ok : Bool} {cm ck : Value} (hu : P.underlying t = some (.map kt et)) (hk : KeyOf P kt kk)
    (hz : zeroT P et = some z) (hm : VRel P G M (.map n) cm) (hkr : VRel P G M k ck) (hg : h.get n = some (.amap es))
    (hf : (match findKey kk k es with
      | some (some v) => some (if ok then AV.tup [v, .bool true] else v, h.rd n)
      | some none => some (if ok then .tup [z, .bool false] else z, h.rd n)
      | none => none) = some (v, h')) (cv : Cov T W h') : SR P G T W M w v h' (Instr.lookup t cm ck ok) := by
  obtain ⟨zc, hz1, hz2⟩ := zeroT_run hz w
  have hh : h' = h.rd n := by
    split at hf <;> first | (simp only [Option.some.injEq, Prod.mk.injEq] at hf; exact hf.2.symm) | cases hf
  subst hh
  obtain ⟨b, hb, ents, clock, h1, h2, h3⟩ := g.boxes n _ cv.of_rd hg
  cases hm with | map hb' =>
  rw [hb] at hb'; cases hb'
  have hf2 := amap_f2 h2 h3
  have hck : ∀ e, (Instr.checkKey e 10000 kt ck).run P w = .ok () w := fun e => checkKey_ok (n := 9999) hk
  cases hq : findKey kk k es with
  | none => simp [hq] at hf
  | some r =>
    rcases findKey_run (w := w) hk hkr hf2 hq with ⟨rfl, hrun⟩ | ⟨u, j, c, rfl, hrun, hur⟩
    · simp only [hq, Option.some.injEq, Prod.mk.injEq] at hf
      obtain ⟨rfl, _⟩ := hf
      refine ⟨if ok then .tuple #[zc, .bool false] else zc, w, M, ?_, g.rd n, .refl W M w, ?_⟩
      · simp only [Instr.lookup, Sem.run_bind, run_underlying hu, Result.andThen_ok, run_getObj h1 (by simp), Sem.run_pure, hck, hrun, hz1]
      · cases ok
        · simpa using cv_rel hz2
        · simpa using (LRel.cons (cv_rel hz2) (.cons .bool .nil)).tup
    · simp only [hq, Option.some.injEq, Prod.mk.injEq] at hf
      obtain ⟨rfl, _⟩ := hf
      refine ⟨if ok then .tuple #[c, .bool true] else c, w, M, ?_, g.rd n, .refl W M w, ?_⟩
      · simp only [Instr.lookup, Sem.run_bind, run_underlying hu, Result.andThen_ok, run_getObj h1 (by simp), Sem.run_pure, hck, hrun]
      · cases ok
        · simpa using hur
        · simpa using (LRel.cons hur (.cons .bool .nil)).tup

theorem range_ok (g : Good P G T M h w) {t : TypeId} {s : List UInt8} {c : Value} (hu : P.underlying t = some .string) (hx : VRel P G M (.str s) c) :
    SR P G T W M w (.iter h.nb) (h.push (.siter s 0)) (Instr.range t c) := by
  obtain ⟨a, rfl, rfl⟩ := vr_str hx
  refine ⟨.pointer (some ⟨w.heap.size, 0, none⟩), w.alloc (.stringIter a 0), M.addBox h.nb w.heap.size, ?_, ?_, Stp.addBox W (g.fbox _ (Nat.le_refl _)) g.nbeq.symm _, .iter (by simp [Mp.addBox])⟩
  · simp only [Instr.range, Sem.run_bind, run_underlying hu, Result.andThen_ok, Sem.run_pure, run_newObj, World.alloc_eq]
  · exact g.addBox _ _ ⟨a, alloc_heap_new _, rfl⟩ (by simp)

theorem get!_eq (a : ByteArray) (i : Nat) : a.get! i = a.data.toList.getD i 0 := by
  cases a with | mk a =>
  simp only [ByteArray.get!, List.getD_eq_getElem?_getD, Array.getElem?_toList]
  by_cases h : i < a.size
  · simp [h]
  · simp [h]; rfl

theorem decode_eq (a : ByteArray) (i : Nat) : Utf8.decode a i = decodeA (a.data.toList.drop i) := by
  have hb : ∀ k, (a.get! (i + k)).toNat = ((a.data.toList.drop i).getD k 0).toNat := by
    intro k
    rw [get!_eq]
    simp [List.getD_eq_getElem?_getD]
  have hl : ∀ k, (i + k < a.size) = (k < (a.data.toList.drop i).length) := by
    intro k
    have : a.data.size = a.size := rfl
    simp [this]
    omega
  simp only [Utf8.decode, decodeA, hb, hl]
  rfl

theorem next_ok (g : Good P G T M h w) {ty : TypeId} {n pos : Nat} {s : List UInt8} {v : AV} {c : Value} (hx : VRel P G M (.iter n) c) (hg : h.get n = some (.siter s pos))
    (e : (if pos < s.length then some (AV.tup [.bool true, .int .i64 pos, .int .i32 (decodeA (s.drop pos)).1], (h.wr n).put n (.siter s (pos + (decodeA (s.drop pos)).2)))
      else some (.tup [.bool false], h.rd n)) = some (v, h')) (cv : Cov T W h') : SR P G T W M w v h' (Instr.next c true ty) := by
  cases hx with | @iter _ b hb =>
  split at e
  · rename_i hlt
    simp only [Option.some.injEq, Prod.mk.injEq] at e
    obtain ⟨rfl, rfl⟩ := e
    obtain ⟨hT, hW⟩ := (cv.of_grow (Grow.put _ _ _)).of_wr
    obtain ⟨b', hb', a, h1, rfl⟩ := g.boxes n _ hT hg
    have hbb : b = b' := by rw [hb] at hb'; exact Option.some.inj hb'
    subst hbb
    let o' : Go.Obj := .stringIter a (pos + (decodeA (a.data.toList.drop pos)).2)
    have hob := OneBlock.setObj w b o'
    have hblt := g.mok.boxlt n b hb
    have hnew : ({ w with heap := w.heap.setIfInBounds b o' } : World).heap[b]? = some o' := by simp [hblt]
    have hps : pos < a.size := by simpa using hlt
    refine ⟨_, _, M, ?_, (g.wr n).put hb (by simpa using hg) (g.mok.nopin h1 (by simp)) hob _ ⟨a, hnew, rfl⟩ (by simp), Stp.put hW hb hob, (LRel.cons .bool (.cons .int (.cons .int .nil))).tup⟩
    simp only [Instr.next, Sem.run_bind, run_getObj h1 (by simp), Result.andThen_ok, hps, if_true, decode_eq, run_setObj h1 (by simp), Sem.run_pure, o']
    rfl
  · rename_i hge
    simp only [Option.some.injEq, Prod.mk.injEq] at e
    obtain ⟨rfl, rfl⟩ := e
    obtain ⟨b, hb', a, h1, rfl⟩ := g.boxes n _ cv.of_rd hg
    rw [hb] at hb'; cases hb'
    have hps : ¬ pos < a.size := by simpa using hge
    refine ⟨.tuple #[.bool false], w, M, ?_, g.rd n, .refl W M w, (LRel.cons .bool .nil).tup⟩
    simp only [Instr.next, Sem.run_bind, run_getObj h1 (by simp), Result.andThen_ok, hps, if_false, Sem.run_pure]

end
end Am
end
