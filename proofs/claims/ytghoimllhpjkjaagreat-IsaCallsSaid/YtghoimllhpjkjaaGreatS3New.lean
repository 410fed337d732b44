/-
  A slice that a call hands back as the caller's own. Conditions: none (lemmas).
-/
import Derived.Test.YtghoimllhpjkjaaGreatS3Box1
set_option linter.unusedVariables false
set_option linter.unusedSimpArgs false
namespace Go.S3
theorem MemOk.joinS {x : Ctx} {m : Mem} {w : World} (hb : MemOk x m w) {g : Stg} {s : SI} (hblk : ∀ p cap, s.blk = some (p, cap) → x.own p ∧ (∀ b, nth x.M b ≠ some p) ∧ ∀ i s' cap', nth x.S i = some s' → s'.blk ≠ some (p, cap')) (hok : StgOk { x with S := x.S ++ [s] } g s w) :
  MemOk { x with S := x.S ++ [s] } { m with stgs := m.stgs ++ [g] } w ∧ Ext x { x with S := x.S ++ [s] } := by
 have hx : Ext x { x with S := x.S ++ [s] } := ⟨rfl, fun _ _ e => e, fun i s1 e => ⟨s1, ZaV e, .refl s1⟩, fun _ _ _ e => e, fun _ _ _ e => .inl e⟩
 refine ⟨⟨hb.fresh, hb.fz, hb.ml, ?_, hb.mown, hb.inj, by simp [hb.sl], ?_, ?_, ?_⟩, hx⟩
 ·intro b l p hl hp
  obtain ⟨C, T, h1, h2⟩ := hb.box b l p hl hp
  exact ⟨C, T, h1, h2.mono hx⟩
 ·intro i g1 s1 hg1 hs1
  have hs1 : nth (x.S ++ [s]) i = some s1 := hs1
  have hsl := hb.sl
  rcases Zu hg1 with e | ⟨e1, e2⟩ <;> rcases Zu hs1 with f | ⟨f1, f2⟩
  ·exact (hb.stg i g1 s1 e f).ctx (fun _ _ _ h => h) (fun _ _ _ _ => rfl)
  ·have := ZP e; omega
  ·have := ZP f; omega
  ·subst e2; subst f2; exact hok
 ·intro i s1 p cap hs1 he
  have hs1 : nth (x.S ++ [s]) i = some s1 := hs1
  rcases Zu hs1 with f | ⟨f1, f2⟩
  ·exact hb.sown i s1 p cap f he
  ·subst f2
   exact ⟨(hblk p cap he).1, (hblk p cap he).2.1⟩
 ·intro i i' s1 s2 p c1 c2 h1 h2 e1 e2
  have h1 : nth (x.S ++ [s]) i = some s1 := h1
  have h2 : nth (x.S ++ [s]) i' = some s2 := h2
  rcases Zu h1 with f | ⟨f1, f2⟩ <;> rcases Zu h2 with k | ⟨k1, k2⟩
  ·exact hb.sinj i i' s1 s2 p c1 c2 f k e1 e2
  ·subst k2
   exact absurd e1 ((hblk p c2 e2).2.2 i s1 c1 f)
  ·subst f2
   exact absurd e2 ((hblk p c1 e1).2.2 i' s2 c2 k)
  ·omega
abbrev newG (r : R) (T : TypeId) (l : List r.den) : Stg := ⟨r, T, l, 0, false, false, false, 0⟩
def newE (r : R) (T : TypeId) (ts : List Sh) (pre : HL ts → Option Bool) (F : HL ts → List r.den) : Entry := .tree fun vs m => match Zhu ts vs with
 | some a => .leaf (some { chk := pre a, v := .w (.one (.tip (len m.stgs) 0)), m := { m with stgs := m.stgs ++ [newG r T (F a)] }, bd := [], sd := [] })
 | none => .leaf none
def ZEz (r : R) (T : TypeId) (q : Res) : Option (List r.den) := match q.v with
 | .w (.one (.tip h ver)) => match Zar q.m h ver with
  | some g => match R.same g.r r, Nat.beq g.T T, g.fzn with
   | some e, true, false => some (EqR.cast e.slc g.l)
   | _, _, _ => none
  | none => none
 | _ => none
def ZGY (E : Env) (fn : Func) (r : R) (T : TypeId) (ts : List Sh) (a : HL ts) : RT (Option (List r.den)) := (ZQ E fn (ZeT ts a) Zc1).map fun
 | some q => ZEz r T q
 | none => none
theorem ZGp {E : Env} (hE : Za1 E) {f : FuncId} {fn : Func} {c : Code} (hf : E.P.funcs[f]? = some fn) (hb : fn.body = some c) (hl : ZO E c) (hcall : ZG E.P f)
  {r : R} {T : TypeId} {ts : List Sh} {pre : HL ts → Option Bool} {F : HL ts → List r.den} (h : ∀ a, okHL ts a → pre a ≠ some false → (ZGY E fn r T ts a).val = some (F a)) :
  Zc E.P f (newE r T ts pre F) := by
 refine ⟨hcall, fun vs m => ?_, fun vs m q hq hc x w args hm hv => ?_⟩
 ·simp only
  split
  ·intro q hq
   simp only [oinj] at hq; subst hq
   exact ⟨Nat.le_refl _, fun b l hl => ⟨l, hl, rfl, fun _ _ => rfl⟩, by simp, fun i g hg => ⟨g, by
    show nth (m.stgs ++ [_]) i = some g
    rw [Zk, List.getElem?_append_left (ZP hg), ← Zk]; exact hg, Nat.le_refl _, fun _ => rfl⟩⟩
  ·intro q hq; simp at hq
 ·simp only at hq
  split at hq
  ·rename_i a ha
   simp only [RT.val, oinj] at hq
   subst hq
   obtain ⟨hargs, hin⟩ := Zbm ha hv
   have h1 := h a hin hc
   unfold ZGY at h1
   rw [RT.val_map] at h1
   split at h1
   ·rename_i q hr
    have hle : FzLe x (Ctx.own0 w x.fz) := fun _ _ _ e => e
    have hargs' : RVs (Ctx.own0 w x.fz) (ZeT ts a) args := Zcv (Zb8 hle ts a (Za0 hargs))
    have h2 := ZaM hE hf hb hl (Zsv hm) hargs' hr
    refine h2.mono fun e w' hres => ?_
    obtain ⟨val, x1, rfl, hrv, hm1, hext, hst⟩ := hres
    unfold ZEz at h1
    split at h1
    ·rename_i hh ver hqv
     split at h1
     ·rename_i g hg
      split at h1
      ·rename_i e hsame hT hfz
       simp only [oinj] at h1
       obtain ⟨hg1, hg2⟩ := ZH hg
       rw [hqv] at hrv
       have hra : RA x1 (.tip hh ver) val := hrv
       obtain ⟨h3, h4⟩ := Ztd hm hext hm1.fz (Za3 hst).1
       cases hra with
       | tip _ _ _ s _ hs hvle hval hat =>
        have hok := hm1.stg hh g s hg1 hs
        have hva := hval (by rw [hok.ver, hg2])
        have hTe : g.T = T := Nat.eq_of_beq_eq_true hT
        obtain ⟨gr, gT, gl, gv, gf, gff, glit, gub⟩ := g
        simp only at e hsame hT hfz h1 hTe
        cases e
        have h1' : gl = F a := h1
        subst hTe
        have hown : ∀ p cap, s.blk = some (p, cap) → w.heap.size ≤ p := fun p cap hp => by
         have := (hm1.sown hh s p cap hs hp).1
         rw [hext.own] at this
         exact this
        have hj := h3.joinS (g := newG _ gT (F a)) (s := { s with ver := 0 }) (fun p cap hp => by
          have hp := hown p cap hp
          exact ⟨hm.fresh p hp, fun b hb => by have := hm.M_lt hb; omega, fun i s' cap' hs' hb => by have := hm.S_lt hs' hb; omega⟩)
         ⟨rfl, by rw [← h1']; exact hok.n, hok.wd, hok.nil, fun p cap hp => by
          obtain ⟨C, a1, a2, a3, a4, a5, a6, a7, a8⟩ := hok.row p cap hp
          refine ⟨C, a1, a2, a3, a4, fun i j a' hi ha' => ?_, a6, a7, a8⟩
          obtain ⟨v, e1, e2⟩ := a5 i j a' hi (by rw [h1']; exact ha')
          exact ⟨v, e1, e2.plain (fun _ _ _ e => e) (R.enc_plain _ _ _ (ZaP ha'))⟩, fun _ => hok.fzn hfz, fun h => by simp at h, fun h => by simp at h⟩
        refine ⟨val, _, rfl, ?_, hj.1, h4.trans hj.2, ?_⟩
        ·refine RA.tip _ _ _ { s with ver := 0 } _ ?_ (Nat.le_refl _) (fun _ => hva) hat
         rw [Zk, Z4, ← hm.sl]; simp
        ·exact (Za3 hst).step hm
      ·simp at h1
     ·simp at h1
    ·simp at h1
   ·simp at h1
  ·simp [RT.val] at hq
section
variable {P : Program} {l : List (FuncId × Entry)} {ol : List (Nat × Ora)} {n k : Nat} {f : FuncId} {fn : Func}
theorem Znx (hl : Zc8 P l) (hf : P.funcs[f]? = some fn) (hb : fn.body.isSome = true) (hn : Za9 (ZA (fn.body.getD .skip)) = true) (hcall : ZG P f) (hol : AllL (envX P l ol n k) fn.body ol)
  {r : R} {T : TypeId} {ts : List Sh} {t : HL ts → RT (Option (List r.den))} (h : ∀ a, ZGY (envX P l ol n k) fn r T ts a = t a) :
  Zc P f (newE r T ts (fun a => okO (t a).val) (fun a => getO [] (t a).val)) := by
 obtain ⟨c, hc, hlo⟩ := Zcb hb hn hol
 exact ZGp (E := envX P l ol n k) (ZF hl ol n k) hf hc hlo hcall fun a _ hp => by rw [h a]; exact Zeg hp
end
theorem ZBi {s s' : St} {a a' : A} (h : Z7 s a = some (a', s')) : s'.bd = s.bd := by
 unfold Z7 at h
 split at h
 ·split at h
  ·split at h
   ·simp only [oinj, pinj] at h; rw [← h.2]
   ·simp only [oinj, pinj] at h; rw [← h.2]
  ·simp at h
 ·simp at h
 ·simp only [oinj, pinj] at h; rw [← h.2]
theorem ZBh : ∀ {l l' : List A} {s s' : St}, Z6 s l = some (l', s') → s'.bd = s.bd
 | [], l', s, s', h => by simp only [Z6, oinj, pinj] at h; rw [← h.2]
 | a :: l, l', s, s', h => by
  simp only [Z6] at h
  split at h
  ·rename_i b s1 h1
   split at h
   ·rename_i r s2 h2
    simp only [oinj, pinj] at h
    rw [← h.2, ZBh h2, ZBi h1]
   ·simp at h
  ·simp at h
theorem ZGT {s s' : St} {v v' : V} (h : Zaz s v = some (v', s')) : s'.bd = s.bd := by
 cases v with
 | tup t => simp only [Zaz, oinj, pinj] at h; rw [← h.2]
 | w w =>
  simp only [Zaz] at h
  split at h
  ·rename_i w1 s1 h1
   simp only [oinj, pinj] at h
   rw [← h.2]
   cases w with
   | one a =>
    simp only [Zag] at h1
    split at h1
    ·rename_i b s2 h2
     simp only [oinj, pinj] at h1
     rw [← h1.2]; exact ZBi h2
    ·simp at h1
   | agg l =>
    simp only [Zag] at h1
    split at h1
    ·rename_i b s2 h2
     simp only [oinj, pinj] at h1
     rw [← h1.2]; exact ZBh h2
    ·simp at h1
   | junk => simp only [Zag, oinj, pinj] at h1; rw [← h1.2]
  ·simp at h
theorem ZEQ : ∀ {l l' : List V} {s s' : St}, ZT s l = some (l', s') → s'.bd = s.bd
 | [], l', s, s', h => by simp only [ZT, oinj, pinj] at h; rw [← h.2]
 | a :: l, l', s, s', h => by
  simp only [ZT] at h
  split at h
  ·rename_i b s1 h1
   split at h
   ·rename_i r s2 h2
    simp only [oinj, pinj] at h
    rw [← h.2, ZEQ h2, ZGT h1]
   ·simp at h
  ·simp at h
def frzE : Entry → Entry
 | .tree g => .tree fun vs m => match ZT (ZwX m) vs with
  | some (us, s) => (g us s.mem).map fun
   | some q => some { q with sd := ZeR s.sd q.sd }
   | none => none
  | none => .leaf none
 | e => e
theorem ZBg {P : Program} {f : FuncId} {g : List V → Mem → RT (Option Res)} (h : Zc P f (.tree g)) : Zc P f (frzE (.tree g)) := by
 refine ⟨h.1, fun vs m => ?_, fun vs m q hp hc x w args hm hv => ?_⟩
 ·simp only
  split
  ·rename_i us s hs
   have k := Zcs hs
   refine RT.All.map ((h.2.1 us s.mem).mono fun r hr q hq => ?_)
   split at hq
   ·rename_i q0
    simp only [oinj] at hq; subst hq
    have k2 := hr q0 rfl
    refine ⟨Nat.le_trans k.bl k2.bl, fun b l hl => ?_, Nat.le_trans k.gl k2.gl, fun i g0 hg0 => ?_⟩
    ·obtain ⟨l1, h1, h2, h3⟩ := k.box b l hl
     obtain ⟨l2, h4, h5, h6⟩ := k2.box b l1 h1
     have hbd : s.bd = [] := ZEQ hs
     refine ⟨l2, h4, h5.trans h2, fun j hj => (h6 j hj).trans (h3 j ?_).2⟩
     rw [hbd]; rfl
    ·obtain ⟨g1, h1, h2, h3⟩ := k.stg i g0 hg0
     obtain ⟨g2, h4, h5, h6⟩ := k2.stg i g1 h1
     refine ⟨g2, h4, Nat.le_trans h2 h5, fun hj => ?_⟩
     rw [ZbU, Bool.or_eq_false_iff] at hj
     exact (h6 hj.2).trans (h3 hj.1).2
   ·simp at hq
  ·intro q hq; simp at hq
 ·simp only at hp
  split at hp
  ·rename_i us s hs
   rw [RT.val_map] at hp
   obtain ⟨x1, m1, e1, r1, k1⟩ := ZdC (s := ZwX m) hm hv hs
   split at hp
   ·rename_i q0 hq0
    simp only [oinj] at hp; subst hp
    refine (h.2.2 us s.mem q0 hq0 hc x1 w args m1 r1).mono fun e w' hres => ?_
    obtain ⟨val, x2, rfl, a1, a2, a3, a4⟩ := hres
    exact ⟨val, x2, rfl, a1, a2, e1.trans a3, ⟨a4.os, a4.tape, a4.output, a4.size, fun k hk => a4.block k (by rw [e1.own]; exact hk)⟩⟩
   ·simp at hp
  ·simp [RT.val] at hp
theorem ZwU {P : Program} {f : FuncId} {r : R} {T : TypeId} {ts : List Sh} {pre pre' : HL ts → Option Bool} {F G : HL ts → List r.den} (h : Zc P f (newE r T ts pre F)) (hp : ∀ a, okHL ts a → pre' a ≠ some false → pre a ≠ some false ∧ F a = G a) : Zc P f (newE r T ts pre' G) := by
 refine ⟨h.1, fun vs m => ?_, fun vs m q hq hc x w args hm hv => ?_⟩
 ·simp only
  split
  ·intro q hq
   simp only [oinj] at hq; subst hq
   exact ⟨Nat.le_refl _, fun b l hl => ⟨l, hl, rfl, fun _ _ => rfl⟩, by simp, fun i g hg => ⟨g, by
    show nth (m.stgs ++ [_]) i = some g
    rw [Zk, List.getElem?_append_left (ZP hg), ← Zk]; exact hg, Nat.le_refl _, fun _ => rfl⟩⟩
  ·intro q hq; simp at hq
 ·simp only at hq
  split at hq
  ·rename_i a ha
   simp only [RT.val, oinj] at hq
   subst hq
   obtain ⟨_, hin⟩ := Zbm ha hv
   obtain ⟨k1, k2⟩ := hp a hin hc
   rw [← k2]
   exact h.2.2 vs m { chk := pre a, v := .w (.one (.tip (len m.stgs) 0)), m := { m with stgs := m.stgs ++ [newG r T (F a)] }, bd := [], sd := [] } (by simp only [ha, RT.val]) k1 x w args hm hv
  ·simp [RT.val] at hq
end Go.S3
