/-
  slices.Insert of one cell and slices.Delete of one: contracts on a slice of the caller's own. Conditions: none.
-/
import Derived.Test.YtfejikddclgkcaaS3Rows
import Derived.Test.YtfejikddclgkcaaInsRaw
import Derived.Test.YtfejikddclgkcaaInsRaw2
import Derived.Test.YtfejikddclgkcaaSortLaw
set_option linter.unusedVariables false
set_option linter.unusedSimpArgs false
namespace Go.Proofs.Ytfejikddclgkcaa
open Go Go.S3 Go.Proofs Go.Proofs.Cells
noncomputable section
abbrev CellR : R := R.pair (R.int IntKind.u16) (R.int IntKind.u8)
abbrev CellT : TypeId := 42
def insX {α : Type} (l : List α) (i : Nat) (c : α) : List α := l.take i ++ [c] ++ l.drop i
def delX {α : Type} (l : List α) (i : Nat) : List α := l.take i ++ l.drop (i + 1)
def insRes (m : Mem) (h : Nat) (l : List CellR.den) (v : Nat) (chk : Bool) : Res :=
  { chk := some chk, v := .w (.one (.tip h (v + 1))), m := { m with stgs := setN m.stgs h ⟨CellR, CellT, l, v + 1, false, false, false, 0⟩ }, bd := [], sd := [h] }
def insE : Entry := .tree fun vs m => match vs with
  | [.w (.one (.tip h ver)), .w (.one (.int _ .i64 i)), .w (.one (.tip h2 ver2))] => match stgOf m h ver, stgOf m h2 ver2 with
    | some g, some g2 => match R.same g.r CellR, R.same g2.r CellR, !g.fzn && Nat.beq g.T CellT && Nat.beq g2.T CellT && !Nat.beq h h2 with
      | some e, some e2, true => match e2.slc.cast g2.l with
        | [c] => .leaf (some (insRes m h (insX (e.slc.cast g.l) i.toNat c) g.ver (decide (0 ≤ i) && decide (i ≤ ((e.slc.cast g.l).length : Int)) && Nat.ble ((e.slc.cast g.l).length + 1) most)))
        | _ => .leaf none
      | _, _, _ => .leaf none
    | _, _ => .leaf none
  | _ => .leaf none
def delE : Entry := .tree fun vs m => match vs with
  | [.w (.one (.tip h ver)), .w (.one (.int _ .i64 i)), .w (.one (.int _ .i64 j))] => match stgOf m h ver with
    | some g => match R.same g.r CellR, !g.fzn && Nat.beq g.T CellT with
      | some e, true => .leaf (some (insRes m h (delX (e.slc.cast g.l) i.toNat) g.ver (decide (0 ≤ i) && decide (i < ((e.slc.cast g.l).length : Int)) && decide (j = i + 1))))
      | _, _ => .leaf none
    | none => .leaf none
  | _ => .leaf none
theorem insRes_keep {m : Mem} {h : Nat} {l : List CellR.den} {v : Nat} {chk : Bool} {g : Stg} (hg : nth m.stgs h = some g) (hv : g.ver = v) : KeepC m (insRes m h l v chk) := by
  refine ⟨Nat.le_refl _, fun b l hl => ⟨l, hl, rfl, fun _ _ => rfl⟩, by simp [insRes, setN_eq], fun i g1 h1 => ?_⟩
  by_cases hi : h = i
  · subst hi
    rw [hg] at h1; simp only [Option.some.injEq] at h1; subst h1
    exact ⟨_, nth_set_self hg, by simp only; omega, fun h => by simp [insRes, memN] at h⟩
  · exact ⟨g1, by show nth (setN m.stgs h _) i = _; rw [nth_set_ne hi]; exact h1, Nat.le_refl _, fun _ => rfl⟩
theorem wid2 : CellR.wid = 2 := rfl
theorem alloc_new (w : World) (o : Obj) : (w.alloc o).heap[w.heap.size]? = some o := by
  show (w.heap.push o)[w.heap.size]? = some o
  simp
/-- The zero value of a cell. -/
theorem cell_info : ∃ i0, Try.prog.info? CellT = some i0 ∧ i0.zero = some (.agg #[.int .u16 0, .int .u8 0]) := ⟨_, rfl, by kernel_rfl⟩
theorem cell_zero (w : World) : (zeroValue CellT).run Try.prog w = .ok (Value.agg #[.int .u16 0, .int .u8 0]) w := by
  obtain ⟨i0, h1, h2⟩ := cell_info
  simp [zeroValue, typeInfo, h1, h2]
theorem two_of {x : Ctx} {c : CellR.den} {a : List Value} (h : RowsOk x CellR [c] a) : ∃ u0 u1, a = [u0, u1] := by
  have := h.len
  simp only [List.length_singleton, wid2] at this
  match a, this with
  | [u0, u1], _ => exact ⟨u0, u1, rfl⟩
theorem ins_rows {x : Ctx} {l : List CellR.den} {a : List Value} {c : CellR.den} {b : List Value} (h : RowsOk x CellR l a) (hc : RowsOk x CellR [c] b) (i : Nat) : RowsOk x CellR (insX l i c) (a.take (i * 2) ++ b ++ a.drop (i * 2)) :=
  ((h.take i).append hc).append (h.drop i)
theorem del_rows {x : Ctx} {l : List CellR.den} {a : List Value} (h : RowsOk x CellR l a) (i : Nat) : RowsOk x CellR (delX l i) (a.take (i * 2) ++ a.drop ((i + 1) * 2)) :=
  (h.take i).append (h.drop (i + 1))
theorem insX_len {α : Type} (l : List α) (i : Nat) (c : α) : (insX l i c).length = l.length + 1 := by simp [insX]; omega
theorem delX_len {α : Type} (l : List α) (i : Nat) (h : i < l.length) : (delX l i).length = l.length - 1 := by simp [delX]; omega
/-- What is known of a call's end, as 'remake' wants it. -/
def Made (w w' : World) (e : Ending) (s : SI) (x : Ctx) (l : List CellR.den) : Prop :=
  w'.os = w.os ∧ w'.tape = w.tape ∧ w'.output = w.output ∧ w.heap.size ≤ w'.heap.size ∧ (∀ k, k < w.heap.size → (∀ cap, s.blk ≠ some (k, cap)) → w'.heap[k]? = w.heap[k]?) ∧
  ∃ p cap C rest, ((∃ c, s.blk = some (p, c)) ∨ w.heap.size ≤ p) ∧ w'.heap[p]? = some (.cells (List.toArray (C ++ rest)) CellT (0, 0)) ∧ (C ++ rest).length = cap * 2 ∧ l.length ≤ cap ∧ cap ≤ maxLen ∧ RowsOk x CellR l C ∧
    e = .returned (.slice (some ⟨p, 0, none⟩) l.length cap)
theorem made_ok {x : Ctx} {m : Mem} {w w' : World} (hm : MemOk x m w) {h : Nat} {g : Stg} {s : SI} (hg : nth m.stgs h = some g) (hs : nth x.S h = some s) (hf : g.fzn = false) (hr : g.r = CellR) (hT : g.T = CellT)
    {l : List CellR.den} {e : Ending} (hd : Made w w' e s x l) {chk : Bool} :
    ∃ val x', e = .returned val ∧ RV x' (insRes m h l g.ver chk).v val ∧ MemOk x' (insRes m h l g.ver chk).m w' ∧ Ext x x' ∧ Step x w w' := by
  obtain ⟨h1, h2, h3, h4, h5, p, cap, C, rest, h6, h7, h8, h9, h10, h11, rfl⟩ := hd
  obtain ⟨r, T, gl, gv, gf, gff, glit, gub⟩ := g
  simp only at hr hT
  subst hr; subst hT
  obtain ⟨x', m1, e1, s1, a1⟩ := remake hm hg hs hf h1 h2 h3 h4 h5 (l := l) h6 h7 h8 h9 h10 (h11.pre rest)
  exact ⟨_, x', rfl, a1, m1, e1, s1⟩
theorem take_app {C A B : List Value} {n : Nat} (h : C = A ++ B) (hn : A.length = n) : C.take n = A := by rw [h, List.take_append_of_le_length (by omega), List.take_of_length_le (by omega)]
theorem drop_app {C A B : List Value} {n : Nat} (h : C = A ++ B) (hn : A.length = n) : C.drop n = B := by rw [h, List.drop_append_of_le_length (by omega), List.drop_eq_nil_of_le (by omega), List.nil_append]

theorem ins_made {x : Ctx} {m : Mem} {w : World} (hm : MemOk x m w) {h : Nat} {g : Stg} {s : SI} (hg : nth m.stgs h = some g) (hs : nth x.S h = some s) (hr : g.r = CellR) (hT : g.T = CellT)
    {l : List CellR.den} (hl : HEq g.l l) {i : Nat} (hi : i ≤ l.length) (hbig : l.length + 1 ≤ most) {c : CellR.den} {u0 u1 : Value} (hc : RowsOk x CellR [c] [u0, u1])
    {pv cv : Nat} {Cv : List Value} (hv : w.heap[pv]? = some (.cells (List.toArray ([u0, u1] ++ Cv)) CellT (0, 0))) (hne : ∀ cap, s.blk ≠ some (pv, cap)) :
    Calls Try.prog 53 #[tipVal s, .int .i64 i, .slice (some ⟨pv, 0, none⟩) 1 cv] w fun e w' => Made w w' e s x (insX l i c) := by
  have ho := hm.stg h g s hg hs
  obtain ⟨r, T, gl, gv, gf, gff, glit, gub⟩ := g
  simp only at hr hT
  subst hr; subst hT
  have hl := eq_of_heq hl
  simp only at hl
  subst hl
  have hmost : most ≤ 1073741824 := by decide
  have hmax : maxLen = 9223372036854775807 := rfl
  have h1v : ∀ v ∈ [u0, u1], v.oneCell' = true := hc.one (by decide)
  have hvs : ∀ j v, [u0, u1][j]? = some v → w.cell? ⟨pv, j, none⟩ = some v := fun j v hj => by
    rw [cell_of_heap hv, List.getElem?_append_left (List.getElem?_eq_some_iff.1 hj).1]; exact hj
  have hpv := heap_lt hv
  have hn := ho.n
  simp only at hn
  have hil := insX_len gl i c
  cases hb : s.blk with
  | none =>
    have h0 := ho.nil hb
    have hnil : gl = [] := List.length_eq_zero_iff.1 (by omega)
    subst hnil
    have hi0 : i = 0 := by simpa using hi
    subst hi0
    have ht : tipVal s = .slice s.na 0 0 := by simp [tipVal, hb]
    rw [ht]
    refine (ins_end_grow s.na 0 0 pv cv [] u0 u1 w (Nat.le_refl _) (by omega) (by omega) rfl (fun _ => rfl) (fun i0 hi0 => by obtain ⟨i1, e1, e2⟩ := cell_info; rw [e1] at hi0; simp only [Option.some.injEq] at hi0; subst hi0; exact e2) (fun _ _ j v hj => by simp at hj) hvs h1v).mono ?_
    rintro e w' ⟨rfl, rfl⟩
    have hG := grownCap_ge w (0 + 1) 0 CellT
    have hG2 := grownCap_le_maxLen w (0 + 1) 0 CellT (by rw [hmax]; omega)
    generalize grownCap w (0 + 1) 0 CellT = G at hG hG2
    refine ⟨rfl, rfl, rfl, by simp, fun k hk _ => RowKit.Below.heap_alloc w.drew _ k hk, w.heap.size, G, [u0, u1], (Builtin.zeroCells #[.int .u16 0, .int .u8 0] (G - (0 + 1))).toList, .inr (Nat.le_refl _), ?_, ?_, by rw [hil]; exact hG, hG2, by simpa [insX] using hc, by rw [hil]; rfl⟩
    · have := alloc_new w.drew (.cells (([] ++ [u0, u1] : List Value).toArray ++ Builtin.zeroCells #[Value.int .u16 0, Value.int .u8 0] (G - (0 + 1))) CellT)
      refine this.trans ?_
      simp [Value.cells]
    · simp only [List.length_append, List.length_cons, List.length_nil, Array.length_toList, size_zeroCells]
      simp; omega
  | some pc =>
    obtain ⟨p, cap⟩ := pc
    obtain ⟨C, c1, c2, c3, c4, _⟩ := ho.row p cap hb
    obtain ⟨hrows, _, _, _⟩ := RowsOk.of_tip ho c1 hb
    simp only [wid2] at c2 hrows
    simp only at c1
    have ht : tipVal s = .slice (some ⟨p, 0, none⟩) gl.length cap := by simp [tipVal, hb, hn]
    rw [ht]
    have hp := heap_lt c1
    have hcell : ∀ j, w.cell? ⟨p, j, none⟩ = C[j]? := fun j => cell_of_heap c1 j
    have hfr : ∀ j, w.frozen? ⟨p, j, none⟩ = false := fun j => frozen_heap c1 j
    obtain ⟨cs, hcs⟩ : ∃ cs, cs = C.take (gl.length * 2) := ⟨_, rfl⟩
    rw [← hcs] at hrows
    have hcsl : cs.length = gl.length * 2 := hrows.len
    have h1c : ∀ v ∈ cs, v.oneCell' = true := hrows.one (by decide)
    have hcsc : ∀ j v, cs[j]? = some v → w.cell? ⟨p, j, none⟩ = some v := fun j v hj => by
      rw [hcell]
      rw [hcs, List.getElem?_take] at hj
      split at hj
      · exact hj
      · simp at hj
    have hne' : pv ≠ p := fun e => hne cap (by rw [hb, e])
    have hrow := ins_rows hrows hc i
    have hsome : ∀ j, j < cap * 2 → (w.cell? ⟨p, j, none⟩).isSome = true := fun j hj => by rw [hcell, List.getElem?_eq_getElem (by omega)]; rfl
    by_cases hroom : gl.length + 1 ≤ cap
    · by_cases hend : i = gl.length
      · -- at the end, room
        subst hend
        refine (ins_end_room p gl.length cap pv cv u0 u1 w hroom (by rw [hmax] at c4; omega) (fun j hj => hsome _ (by omega)) (fun j hj => hfr _) hvs h1v).mono ?_
        rintro e w' ⟨rfl, rfl⟩
        have hh := setCells_heap (w := w) (b := p) (o := gl.length * 2) (vs := [u0, u1]) c1 (by simp; omega) h1v
        obtain ⟨z1, z2, z3⟩ := setCells_rest p [u0, u1] (gl.length * 2) w
        refine ⟨z1, z2, z3, by rw [setCells_size]; exact Nat.le_refl _, fun k hk hkb => setCells_other p _ _ _ k (fun e => hkb cap (by rw [e, hb])), p, cap, _, C.drop (gl.length * 2 + 2), .inl ⟨cap, hb⟩, ?_, ?_, by rw [hil]; exact hroom, c4, hrow, by rw [hil]⟩
        · rw [hh]
          have e1 : cs.take (gl.length * 2) = cs := List.take_of_length_le (by omega)
          have e2 : cs.drop (gl.length * 2) = [] := List.drop_eq_nil_of_le (by omega)
          rw [e1, e2, ← hcs]; simp
        · have e2 : cs.drop (gl.length * 2) = [] := List.drop_eq_nil_of_le (by omega)
          rw [e2]; simp only [List.length_append, List.length_take, List.length_drop, List.length_cons, List.length_nil]; omega
      · -- a shift
        have hkB : C.toArray.size ≠ 0 := by simp only [List.size_toArray]; omega
        refine (ins_shift p gl.length cap i pv cv cs u0 u1 w (by omega) hroom (by rw [hmax] at c4; omega) hne' hcsl hcsc (fun j hj => hsome _ (by omega)) (fun j _ => hfr _) hvs h1c h1v CellT CellT ([u0, u1] ++ Cv).toArray.size C.toArray.size (by simp [World.shape?, hv]) (by simp [World.shape?, c1]) hkB (frozen_heap hv _) (frozen_heap hv _)).mono ?_
        rintro e w' ⟨rfl, rfl⟩
        have hdl : (cs.drop (i * 2)).length = (gl.length - i) * 2 := by rw [List.length_drop, hcsl]; omega
        have hh1 := setCells_heap (w := w.drew) (b := p) (o := (i + 1) * 2) (vs := cs.drop (i * 2)) c1 (by rw [hdl]; omega) (fun v hv => h1c v (List.mem_of_mem_drop hv))
        obtain ⟨C1, hC1⟩ : ∃ C1, C1 = C.take ((i + 1) * 2) ++ cs.drop (i * 2) ++ C.drop ((i + 1) * 2 + (cs.drop (i * 2)).length) := ⟨_, rfl⟩
        rw [← hC1] at hh1
        have hC1l : C1.length = C.length := by rw [hC1]; simp only [List.length_append, List.length_take, List.length_drop, hdl]; omega
        have hh := setCells_heap (w := w.drew.setCells p ((i + 1) * 2) (cs.drop (i * 2))) (b := p) (o := i * 2) (vs := [u0, u1]) hh1 (by simp; omega) h1v
        obtain ⟨z1, z2, z3⟩ := setCells_rest p [u0, u1] (i * 2) (w.drew.setCells p ((i + 1) * 2) (cs.drop (i * 2)))
        obtain ⟨y1, y2, y3⟩ := setCells_rest p (cs.drop (i * 2)) ((i + 1) * 2) w.drew
        refine ⟨z1.trans y1, z2.trans y2, z3.trans y3, by rw [setCells_size, setCells_size]; exact Nat.le_refl _, fun k hk hkb => ?_, p, cap, _, C.drop ((gl.length + 1) * 2), .inl ⟨cap, hb⟩, ?_, ?_, by rw [hil]; exact hroom, c4, hrow, by rw [hil]⟩
        · have : k ≠ p := fun e => hkb cap (by rw [e, hb])
          rw [setCells_other p _ _ _ k this, setCells_other p _ _ _ k this]; rfl
        · rw [hh]
          have e1 : C1.take (i * 2) = cs.take (i * 2) := by
            rw [hC1, List.append_assoc, List.take_append_of_le_length (by simp; omega), List.take_take, hcs, List.take_take, Nat.min_eq_left (by omega), Nat.min_eq_left (by omega)]
          have e2 : C1.drop (i * 2 + [u0, u1].length) = cs.drop (i * 2) ++ C.drop ((gl.length + 1) * 2) := by
            refine drop_app (A := C.take ((i + 1) * 2)) ?_ (by simp; omega)
            rw [hC1, hdl, List.append_assoc]; congr 3; omega
          rw [e1, e2]; simp
        · simp only [List.length_append, List.length_take, List.length_drop, List.length_cons, List.length_nil, hdl, hcsl, c2]; omega
    · have hcap : cap = gl.length := by have := hn; omega
      by_cases hend : i = gl.length
      · -- at the end, a new row
        subst hend
        refine (ins_end_grow (some ⟨p, 0, none⟩) gl.length cap pv cv cs u0 u1 w (by omega) (by omega) hbig hcsl (fun e => by simp at e) (fun i0 hi0 => by obtain ⟨i1, e1, e2⟩ := cell_info; rw [e1] at hi0; simp only [Option.some.injEq] at hi0; subst hi0; exact e2) (fun a ha j v hj => by
          simp only [Option.some.injEq] at ha; subst ha
          rw [Addr.add_lit, Nat.zero_add]; exact hcsc j v hj) hvs h1v).mono ?_
        rintro e w' ⟨rfl, rfl⟩
        have hG := grownCap_ge w (gl.length + 1) cap CellT
        have hG2 := grownCap_le_maxLen w (gl.length + 1) cap CellT (by rw [hmax]; omega)
        generalize grownCap w (gl.length + 1) cap CellT = G at hG hG2
        refine ⟨rfl, rfl, rfl, by simp, fun k hk _ => RowKit.Below.heap_alloc w.drew _ k hk, w.heap.size, G, _, (Builtin.zeroCells #[.int .u16 0, .int .u8 0] (G - (gl.length + 1))).toList, .inr (Nat.le_refl _), ?_, ?_, by rw [hil]; exact hG, hG2, hrow, by rw [hil]⟩
        · have := alloc_new w.drew (.cells ((cs ++ [u0, u1] : List Value).toArray ++ Builtin.zeroCells #[Value.int .u16 0, Value.int .u8 0] (G - (gl.length + 1))) CellT)
          refine this.trans ?_
          have e1 : cs.take (gl.length * 2) = cs := List.take_of_length_le (by omega)
          have e2 : cs.drop (gl.length * 2) = [] := List.drop_eq_nil_of_le (by omega)
          rw [e1, e2]; simp [Value.cells]
        · have e2 : cs.drop (gl.length * 2) = [] := List.drop_eq_nil_of_le (by omega)
          rw [e2]
          simp only [List.length_append, List.length_take, List.length_cons, List.length_nil, Array.length_toList, size_zeroCells]
          simp; omega
      · refine (ins_grow p gl.length cap i pv cv cs u0 u1 w (by omega) (by omega) (by omega) hbig hcsl (fun i0 hi0 => by obtain ⟨i1, e1, e2⟩ := cell_info; rw [e1] at hi0; simp only [Option.some.injEq] at hi0; subst hi0; exact e2) hcsc hvs h1c h1v).mono ?_
        rintro e w' ⟨rfl, rfl⟩
        have hG := grownCap_ge w (gl.length + 1) cap CellT
        have hG2 := grownCap_le_maxLen w (gl.length + 1) cap CellT (by rw [hmax]; omega)
        generalize grownCap w (gl.length + 1) cap CellT = G at hG hG2
        obtain ⟨R0, hR0⟩ : ∃ R0 : List Value, R0 = cs.take (i * 2) ++ ((Builtin.zeroCells #[.int .u16 0, .int .u8 0] (gl.length + 1 - i)).toList ++ (Builtin.zeroCells #[.int .u16 0, .int .u8 0] (G - (gl.length + 1))).toList) := ⟨_, rfl⟩
        have hR : ((cs.take (i * 2)).toArray ++ Builtin.zeroCells #[Value.int .u16 0, Value.int .u8 0] (gl.length + 1 - i) ++ Builtin.zeroCells #[Value.int .u16 0, Value.int .u8 0] (G - (gl.length + 1))) = R0.toArray := by
          rw [hR0]; simp [Value.cells]
        rw [hR]
        have hR0l : R0.length = G * 2 := by
          rw [hR0]; simp only [List.length_append, List.length_take, Array.length_toList, size_zeroCells]; simp; omega
        have hdl : (cs.drop (i * 2)).length = (gl.length - i) * 2 := by rw [List.length_drop, hcsl]; omega
        have hnew : ((w.alloc (.cells R0.toArray CellT)).drew).heap[w.heap.size]? = some (.cells R0.toArray CellT (0, 0)) := alloc_new w _
        have hh1 := setCells_heap (b := w.heap.size) (o := i * 2) (vs := [u0, u1]) hnew (by simp; omega) h1v
        obtain ⟨C1, hC1⟩ : ∃ C1, C1 = R0.take (i * 2) ++ [u0, u1] ++ R0.drop (i * 2 + [u0, u1].length) := ⟨_, rfl⟩
        rw [← hC1] at hh1
        have hC1l : C1.length = G * 2 := by rw [hC1]; simp only [List.length_append, List.length_take, List.length_drop, List.length_cons, List.length_nil]; omega
        have hh := setCells_heap (w := (((w.alloc (.cells R0.toArray CellT)).drew.setCells w.heap.size (i * 2) [u0, u1]).drew)) (b := w.heap.size) (o := (i + 1) * 2) (vs := cs.drop (i * 2)) hh1 (by rw [hdl]; omega) (fun v hv => h1c v (List.mem_of_mem_drop hv))
        obtain ⟨z1, z2, z3⟩ := setCells_rest w.heap.size (cs.drop (i * 2)) ((i + 1) * 2) (((w.alloc (.cells R0.toArray CellT)).drew.setCells w.heap.size (i * 2) [u0, u1]).drew)
        obtain ⟨y1, y2, y3⟩ := setCells_rest w.heap.size [u0, u1] (i * 2) (w.alloc (.cells R0.toArray CellT)).drew
        refine ⟨z1.trans y1, z2.trans y2, z3.trans y3, ?_, fun k hk hkb => ?_, w.heap.size, G, _, C1.drop ((i + 1) * 2 + (cs.drop (i * 2)).length), .inr (Nat.le_refl _), ?_, ?_, by rw [hil]; exact hG, hG2, hrow, by rw [hil]⟩
        · rw [setCells_size]; show _ ≤ ((w.alloc (.cells R0.toArray CellT)).drew.setCells w.heap.size (i * 2) [u0, u1]).heap.size
          rw [setCells_size]; show _ ≤ (w.alloc (.cells R0.toArray CellT)).heap.size
          simp
        · have : k ≠ w.heap.size := by omega
          rw [setCells_other _ _ _ _ k this]
          show ((w.alloc (.cells R0.toArray CellT)).drew.setCells w.heap.size (i * 2) [u0, u1]).heap[k]? = _
          rw [setCells_other _ _ _ _ k this]
          exact RowKit.Below.heap_alloc w _ k hk
        · rw [hh]
          have e1 : C1.take ((i + 1) * 2) = cs.take (i * 2) ++ [u0, u1] := by
            refine take_app (B := R0.drop (i * 2 + [u0, u1].length)) ?_ (by simp; omega)
            rw [hC1]
            have : R0.take (i * 2) = cs.take (i * 2) := take_app hR0 (by simp; omega)
            rw [this]
          rw [e1]
        · simp only [List.length_append, List.length_take, List.length_drop, List.length_cons, List.length_nil, hdl, hcsl, hC1l]; omega
theorem del_made {x : Ctx} {m : Mem} {w : World} (hm : MemOk x m w) {h : Nat} {g : Stg} {s : SI} (hg : nth m.stgs h = some g) (hs : nth x.S h = some s) (hr : g.r = CellR) (hT : g.T = CellT)
    {l : List CellR.den} (hl : HEq g.l l) {i : Nat} (hi : i < l.length) :
    Calls Try.prog 52 #[tipVal s, .int .i64 i, .int .i64 ((i : Int) + 1)] w fun e w' => Made w w' e s x (delX l i) := by
  have ho := hm.stg h g s hg hs
  obtain ⟨r, T, gl, gv, gf, gff, glit, gub⟩ := g
  simp only at hr hT
  subst hr; subst hT
  have hl := eq_of_heq hl
  simp only at hl
  subst hl
  have hmax : maxLen = 9223372036854775807 := rfl
  have hn := ho.n
  simp only at hn
  have hil := delX_len gl i hi
  cases hb : s.blk with
  | none =>
    have h0 := ho.nil hb
    omega
  | some pc =>
    obtain ⟨p, cap⟩ := pc
    obtain ⟨C, c1, c2, c3, c4, _⟩ := ho.row p cap hb
    obtain ⟨hrows, _, _, _⟩ := RowsOk.of_tip ho c1 hb
    simp only [wid2] at c2 hrows
    simp only at c1
    have ht : tipVal s = .slice (some ⟨p, 0, none⟩) gl.length cap := by simp [tipVal, hb, hn]
    rw [ht]
    have hcell : ∀ j, w.cell? ⟨p, j, none⟩ = C[j]? := fun j => cell_of_heap c1 j
    obtain ⟨cs, hcs⟩ : ∃ cs, cs = C.take (gl.length * 2) := ⟨_, rfl⟩
    rw [← hcs] at hrows
    have hcsl : cs.length = gl.length * 2 := hrows.len
    have h1c : ∀ v ∈ cs, v.oneCell' = true := hrows.one (by decide)
    have h1z : ∀ v ∈ [Value.int .u16 0, Value.int .u8 0], v.oneCell' = true := by simp [Value.oneCell']
    have hcsc : ∀ j v, cs[j]? = some v → w.cell? ⟨p, j, none⟩ = some v := fun j v hj => by
      rw [hcell]
      rw [hcs, List.getElem?_take] at hj
      split at hj
      · exact hj
      · simp at hj
    refine (del_raw p gl.length cap i cs (.int .u16 0) (.int .u8 0) w hi (by omega) (by rw [hmax] at c4; omega) hcsl cell_zero (by simp [Builtin.zeroCells, Value.cells]; rfl) h1z hcsc (fun j _ => frozen_heap c1 j) h1c).mono ?_
    rintro e w' ⟨rfl, rfl⟩
    have hdl : (cs.drop ((i + 1) * 2)).length = (gl.length - (i + 1)) * 2 := by rw [List.length_drop, hcsl]; omega
    have hh1 := setCells_heap (w := w.drew) (b := p) (o := i * 2) (vs := cs.drop ((i + 1) * 2)) c1 (by rw [hdl]; omega) (fun v hv => h1c v (List.mem_of_mem_drop hv))
    obtain ⟨C1, hC1⟩ : ∃ C1, C1 = C.take (i * 2) ++ cs.drop ((i + 1) * 2) ++ C.drop (i * 2 + (cs.drop ((i + 1) * 2)).length) := ⟨_, rfl⟩
    rw [← hC1] at hh1
    have hC1l : C1.length = C.length := by rw [hC1]; simp only [List.length_append, List.length_take, List.length_drop, hdl]; omega
    have hh := setCells_heap (w := w.drew.setCells p (i * 2) (cs.drop ((i + 1) * 2))) (b := p) (o := (gl.length - 1) * 2) (vs := [.int .u16 0, .int .u8 0]) hh1 (by simp; omega) h1z
    obtain ⟨z1, z2, z3⟩ := setCells_rest p [.int .u16 0, .int .u8 0] ((gl.length - 1) * 2) (w.drew.setCells p (i * 2) (cs.drop ((i + 1) * 2)))
    obtain ⟨y1, y2, y3⟩ := setCells_rest p (cs.drop ((i + 1) * 2)) (i * 2) w.drew
    refine ⟨z1.trans y1, z2.trans y2, z3.trans y3, by rw [setCells_size, setCells_size]; exact Nat.le_refl _, fun k hk hkb => ?_, p, cap, _, [.int .u16 0, .int .u8 0] ++ C1.drop ((gl.length - 1) * 2 + [Value.int .u16 0, .int .u8 0].length), .inl ⟨cap, hb⟩, ?_, ?_, by rw [hil]; omega, c4, del_rows hrows i, by rw [hil]⟩
    · have : k ≠ p := fun e => hkb cap (by rw [e, hb])
      rw [setCells_other p _ _ _ k this, setCells_other p _ _ _ k this]; rfl
    · rw [hh]
      have e1 : C1.take ((gl.length - 1) * 2) = cs.take (i * 2) ++ cs.drop ((i + 1) * 2) := by
        refine take_app (B := C.drop (i * 2 + (cs.drop ((i + 1) * 2)).length)) ?_ (by simp; omega)
        rw [hC1, hcs, List.take_take, Nat.min_eq_left (by omega)]
      rw [e1]; simp
    · simp only [List.length_append, List.length_take, List.length_drop, List.length_cons, List.length_nil, hdl, hcsl, hC1l, c2]; omega
theorem ins_ok : EntryOk Try.prog 53 insE := by
  refine ⟨Try.call53, fun vs m => ?_, fun vs m q hp hc x w args hm hv => ?_⟩
  · simp only
    split
    · split
      · rename_i g g2 hg hg2
        split
        · split
          · intro q hq
            simp only [Option.some.injEq] at hq; subst hq
            exact insRes_keep (stgOf_some hg).1 rfl
          · intro q hq; simp at hq
        · intro q hq; simp at hq
      · intro q hq; simp at hq
    · intro q hq; simp at hq
  · simp only at hp
    split at hp
    · rename_i h ver lit i h2 ver2
      split at hp
      · rename_i g g2 hg hg2
        split at hp
        · rename_i _ _ _ e e2 he he2 hcond
          split at hp
          · rename_i c hc1
            simp only [RT.val, Option.some.injEq] at hp
            subst hp
            simp only [Bool.and_eq_true, Nat.beq_eq, Bool.not_eq_true'] at hcond
            obtain ⟨⟨⟨hf, hT⟩, hT2⟩, hne⟩ := hcond
            have hne : h ≠ h2 := fun e => by rw [e, Nat.beq_refl] at hne; simp at hne
            obtain ⟨hg, hgv⟩ := stgOf_some hg
            obtain ⟨hg2, hgv2⟩ := stgOf_some hg2
            match args, hv with
            | [v, vi, v2], hv =>
              obtain ⟨s, hs, hso, rfl⟩ := tip_of hm.toR hv.1 (by unfold stgOf; rw [hg]; simp [hgv] : stgOf m h ver = some g)
              obtain ⟨s2, hs2, hso2, rfl⟩ := tip_of hm.toR hv.2.2.1 (by unfold stgOf; rw [hg2]; simp [hgv2] : stgOf m h2 ver2 = some g2)
              have hvi : RA x (.int lit .i64 i) vi := hv.2.1
              cases hvi
              simp only [insRes] at hc
              have hck : (decide (0 ≤ i) && decide (i ≤ ((e.slc.cast g.l).length : Int)) && Nat.ble ((e.slc.cast g.l).length + 1) most) = true := by
                cases hb : (decide (0 ≤ i) && decide (i ≤ ((e.slc.cast g.l).length : Int)) && Nat.ble ((e.slc.cast g.l).length + 1) most) with
                | true => rfl
                | false => rw [hb] at hc; exact absurd rfl hc
              simp only [Bool.and_eq_true, decide_eq_true_eq, Nat.ble_eq] at hck
              obtain ⟨⟨k1, k2⟩, k3⟩ := hck
              have hi : (i.toNat : Int) = i := by omega
              -- the second slice
              obtain ⟨r2, T2, l2, gv2, gf2, gff2, glit2, gub2⟩ := g2
              cases e2
              simp only [EqR.slc, EqR.cast] at hc1
              simp only at hT2
              subst hc1; subst hT2
              have hn2 : s2.n = 1 := hso2.n
              cases hb2 : s2.blk with
              | none => have := (hso2.nil hb2).1; omega
              | some pc =>
                obtain ⟨pv, cv⟩ := pc
                obtain ⟨Cf, c1, _⟩ := hso2.row pv cv hb2
                obtain ⟨hrows2, _, _, _⟩ := RowsOk.of_tip hso2 c1 hb2
                simp only [List.length_singleton] at hrows2
                obtain ⟨u0, u1, hu⟩ := two_of hrows2
                rw [hu] at hrows2
                have hCf : Cf = [u0, u1] ++ Cf.drop (1 * CellR.wid) := by rw [← hu, List.take_append_drop]
                rw [hCf] at c1
                have hv2 : tipVal s2 = .slice (some ⟨pv, 0, none⟩) 1 cv := by simp [tipVal, hb2, hn2]
                rw [hv2, ← hi]
                have hgr : g.r = CellR := R.same_eq he
                have key := ins_made hm hg hs hgr hT (l := e.slc.cast g.l) (by cases g; simp only at hgr; subst hgr; cases e; rfl) (i := i.toNat) (by omega) k3 hrows2 c1 (cv := cv)
                  (fun cap hb => hne (hm.sinj h h2 s s2 pv cap cv hs hs2 hb hb2))
                refine key.mono fun e' w' hd => ?_
                rw [Int.toNat_natCast]
                exact made_ok hm hg hs hf hgr hT hd
            | [], hv => exact hv.elim
            | [_], hv => exact hv.2.elim
            | [_, _], hv => exact hv.2.2.elim
            | _ :: _ :: _ :: _ :: _, hv => exact hv.2.2.2.elim
          · simp [RT.val] at hp
        · simp [RT.val] at hp
      · simp [RT.val] at hp
    · simp [RT.val] at hp
theorem del_ok : EntryOk Try.prog 52 delE := by
  refine ⟨Try.call52, fun vs m => ?_, fun vs m q hp hc x w args hm hv => ?_⟩
  · simp only
    split
    · split
      · rename_i g hg
        split
        · intro q hq
          simp only [Option.some.injEq] at hq; subst hq
          exact insRes_keep (stgOf_some hg).1 rfl
        · intro q hq; simp at hq
      · intro q hq; simp at hq
    · intro q hq; simp at hq
  · simp only at hp
    split at hp
    · rename_i h ver lit i lit2 j
      split at hp
      · rename_i g hg
        split at hp
        · rename_i _ _ e he hcond
          simp only [RT.val, Option.some.injEq] at hp
          subst hp
          simp only [Bool.and_eq_true, Nat.beq_eq, Bool.not_eq_true'] at hcond
          obtain ⟨hf, hT⟩ := hcond
          obtain ⟨hg, hgv⟩ := stgOf_some hg
          match args, hv with
          | [v, vi, vj], hv =>
            obtain ⟨s, hs, hso, rfl⟩ := tip_of hm.toR hv.1 (by unfold stgOf; rw [hg]; simp [hgv] : stgOf m h ver = some g)
            have hvi : RA x (.int lit .i64 i) vi := hv.2.1
            have hvj : RA x (.int lit2 .i64 j) vj := hv.2.2.1
            cases hvi; cases hvj
            simp only [insRes] at hc
            have hck : (decide (0 ≤ i) && decide (i < ((e.slc.cast g.l).length : Int)) && decide (j = i + 1)) = true := by
              cases hb : (decide (0 ≤ i) && decide (i < ((e.slc.cast g.l).length : Int)) && decide (j = i + 1)) with
              | true => rfl
              | false => rw [hb] at hc; exact absurd rfl hc
            simp only [Bool.and_eq_true, decide_eq_true_eq] at hck
            obtain ⟨⟨k1, k2⟩, rfl⟩ := hck
            have hi : (i.toNat : Int) = i := by omega
            rw [← hi]
            have hgr : g.r = CellR := R.same_eq he
            have key := del_made hm hg hs hgr hT (l := e.slc.cast g.l) (by cases g; simp only at hgr; subst hgr; cases e; rfl) (i := i.toNat) (by omega)
            refine key.mono fun e' w' hd => ?_
            rw [Int.toNat_natCast]
            exact made_ok hm hg hs hf hgr hT hd
          | [], hv => exact hv.elim
          | [_], hv => exact hv.2.elim
          | [_, _], hv => exact hv.2.2.elim
          | _ :: _ :: _ :: _ :: _, hv => exact hv.2.2.2.elim
        · simp [RT.val] at hp
      · simp [RT.val] at hp
    · simp [RT.val] at hp
end
end Go.Proofs.Ytfejikddclgkcaa
