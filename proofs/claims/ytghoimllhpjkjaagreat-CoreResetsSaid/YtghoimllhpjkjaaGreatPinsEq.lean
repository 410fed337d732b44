/-
  The pins of a state: the program's are the reference's. Conditions: none.
-/
import Derived.Test.YtghoimllhpjkjaaGreatLeafs
import Derived.Test.YtghoimllhpjkjaaGreatS3D
import Derived.Test.YtghoimllhpjkjaaGreatProg
open Go.IntKind (u8 u16 i64)
open Go Go.S3 Go.Proofs
set_option linter.unusedVariables false
set_option linter.unusedSimpArgs false
set_option maxRecDepth 100000
namespace Go.Proofs.YtghoimllhpjkjaaGreat
noncomputable section
theorem ZvA (b : Int) (h : inR .u8 b) : Zki b = true ∧ Zr8 b = Zk7 b := by
 have h1 := Ze7 (fun b => Zki b && (Zr8 b == Zk7 b)) (by kernel_rfl) b h
 simpa using h1
theorem Zwv (a b c : Bool) : pMaj a b c = rMaj a b c := by cases a <;> cases b <;> cases c <;> rfl
theorem ZSa (a : Bool) : pOne a = rOne a := by cases a <;> rfl
theorem ZIX (a b : Int) (c : Bool) : pSum a b c = rSum a b c := by
 simp only [pSum, ZTu, rSum, ZOX, RT.val, Bool.cond_self, Zmb, Zkg, ZdD, Zj4, ZSa]
theorem ZBl (a b : Int) (c : Bool) : Zg4 a b c = Zcd a b c := by
 have h1 := ZVQ a
 have h2 := ZVQ b
 have e : IntKind.wrap .i64 (IntKind.wrap .i64 (IntKind.wrap .i64 (IntKind.wrap .i64 (andI .u8 a 15) + 15) - IntKind.wrap .i64 (andI .u8 b 15)) + 1) = IntKind.wrap .i64 (IntKind.wrap .i64 (IntKind.wrap .i64 (andI .u8 a 15) + IntKind.wrap .i64 (IntKind.wrap .u8 (15 - andI .u8 b 15))) + 1) := by
  rw [ZSn]
  rw [ZH (andI .u8 a 15) (by omega) (by omega), ZH (andI .u8 b 15) (by omega) (by omega), ZH ((15 - andI .u8 b 15) % 256) (by omega) (by omega), ZH (andI .u8 a 15 + 15) (by omega) (by omega)]
  congr 1; rw [ZH _ (by omega) (by omega), ZH _ (by omega) (by omega)]; omega
 simp only [Zg4, ZMn, Zcd, ZC5, RT.val, Bool.cond_self, Zmb, Zkg, ZdD, Zj4, ZSa, e]
theorem ZtG (a b : Int) : ZLX a b = Zcp a b := rfl
theorem ZN7 (b : Bool) (n : Int) (h : 0 ≤ n) : Zeg b n = true ∧ pBit b n = bif b then shlI .u8 1 n else 0 := by
 cases b <;> simp [Zeg, pBit, ZP8, RT.val, h, okB, getO]
theorem ZdA (b : Bool) (n : Int) (h : 0 ≤ n) : Zdj b n = true ∧ rBit b n = bif b then shlI .u8 1 n else 0 := by
 cases b <;> simp [Zdj, rBit, ZPp, RT.val, h, okB, getO]
theorem Zaw (chip : Int) : rOn chip = (chip == 2) := rfl
theorem ZVm (chip : Int) (f) : ZDy chip f = true := by
 cases h : chip == 2 <;> simp [ZDy, ZvQ, RT.val, ZN7, okB, h]
theorem ZJe (chip : Int) (f) : ZCK chip f = true := by
 cases h : chip == 2 <;> simp [ZCK, Zvc, RT.val, ZdA, Zaw, okB, h]
theorem ZTt (chip : Int) (f) : ZPP chip f = ZPb chip f := by
 simp only [ZPP, ZvQ, ZPb, Zvc, RT.val, ZN7, ZdA, Zaw]; cases chip == 2 <;> simp [ZN7, ZdA, getO]
theorem of_C (r : Int) (h : inR .u8 r) : pOfC r = true := by simp [pOfC, pOfT, RT.val, ZvA r h, okB]
theorem Zv8 (r : Int) (h : inR .u8 r) : pOf r = rOf r := by simp [pOf, pOfT, rOf, rOfT, RT.val, ZvA r h, getO]
theorem ZUy (r) (n : Int) : ZyR r n = true := by
 have := and7 n
 have h : decide (0 ≤ andI .i64 n 7 ∧ andI .i64 n 7 < 8) = true := by simp; omega
 simp only [ZyR, ZyP, RT.val, h, cond_true, okB]
theorem ZNO {m : Int} (h : 0 ≤ m ∧ m ≤ 7) : m = 0 ∨ m = 1 ∨ m = 2 ∨ m = 3 ∨ m = 4 ∨ m = 5 ∨ m = 6 ∨ m = 7 := by omega
theorem ZK4 (r) (n : Int) : pGet r n = rGet r n := by
 have h7 := and7 n
 have h : decide (0 ≤ andI .i64 n 7 ∧ andI .i64 n 7 < 8) = true := by simp; omega
 simp only [pGet, ZTU, rGet, ZyP, RT.val, h, cond_true, getO]
 generalize andI .i64 n 7 = m at *
 rcases ZNO h7 with rfl | rfl | rfl | rfl | rfl | rfl | rfl | rfl <;> rfl
theorem ZKV (r) (n v : Int) : pSet r n v = rSet r n v := by
 have h7 := and7 n
 simp only [pSet, ZTx, rSet, ZSS, RT.val, cond_true, getO]
 generalize andI .i64 n 7 = m at *
 rcases ZNO h7 with rfl | rfl | rfl | rfl | rfl | rfl | rfl | rfl <;> rfl
theorem ZPt (r) (n : Int) : ZTG r n = Zai r n := by
 simp only [ZTG, ZLz, Zai, ZoZ, RT.val, ZK4, ZUy, ZtG]
 cases andI .i64 n 3 == 3 <;> simp [okB, getO]
theorem ZSK (r) (n : Int) : ZJP r n = true := by
 simp only [ZJP, ZoZ, RT.val, ZUy]
 cases andI .i64 n 3 == 3 <;> simp [okB]
theorem Zzb (r) (n v : Int) : ZrX r n v = Zs r n v := by
 simp only [ZrX, Zmc, Zs, Zfv, RT.val, ZKV]
theorem ZKY (chip : Int) (r) : ZTI chip r = true ∧ pPSW chip r = rPSW chip r := by
 simp [ZTI, pPSW, ZPQ, rPSW, ZJS, RT.val, ZVm, ZJe, ZTt, ZtG, okB, getO]
theorem ZUY (chip : Int) (r) : ZSZ chip r = true := by simp [ZSZ, ZJS, RT.val, ZJe, okB]
theorem ZIS (chip : Int) (b : Int) : ZrU chip b = Zqu chip b := by
 simp only [ZrU, ZrT, Zqu, Zqt, RT.val, Zaw]
theorem ZF9 (chip : Int) (r) (v : Int) : Zzp chip r v = Zfx chip r v := by
 simp only [Zzp, ZrY, Zfx, Zj5, RT.val, ZIS]
theorem ZQt (c : Int) (f) : ZL6 c f = Zd1 c f := by
 simp only [ZL6, ZAm, Zd1, ZyO, RT.val]
 by_cases h : 0 ≤ c ∧ c ≤ 11
 ·have : c = 0 ∨ c = 1 ∨ c = 2 ∨ c = 3 ∨ c = 4 ∨ c = 5 ∨ c = 6 ∨ c = 7 ∨ c = 8 ∨ c = 9 ∨ c = 10 ∨ c = 11 := by omega
  rcases this with rfl | rfl | rfl | rfl | rfl | rfl | rfl | rfl | rfl | rfl | rfl | rfl <;> simp
 ·have e : ∀ k : Int, 0 ≤ k → k ≤ 11 → (c == k) = false := fun k h1 h2 => by simp; omega
  simp [e]
theorem Zuy (a b : Int) (c : Bool) : inR .u8 (rSum a b c).1 := by
 simp only [rSum, ZOX, RT.val, Bool.cond_self]; exact ZaZ _ _
theorem Zn0 (a b : Int) (c : Bool) : inR .u8 (Zcd a b c).1 := by
 simp only [Zcd, ZC5, RT.val, Bool.cond_self]; exact ZaZ _ _
theorem Zjh (a b : Int) : inR .u8 (andI .u8 a b) ∧ inR .u8 (orI .u8 a b) ∧ inR .u8 (xorI .u8 a b) := Zgu _ _ _
theorem ZuJ (chip v r : Int) (half over x : Bool) (f) (h : inR .u8 r) : ZhU chip v r half over x f = true ∧
  Zmh chip v r half over x f = Zob chip ((rOf r).1, (rOf r).2.1, (rOf r).2.2.1, half, (rOf r).2.2.2.2.1, (rOf r).2.2.2.2.2.1, f.2.2.2.2.2.2) (rMaj (decide (v ≥ 128)) x (decide (r ≥ 128))) over := by
 cases hc : chip == 2 <;> simp [ZhU, Zmh, Zkh, Zob, Zo0, RT.val, of_C r h, Zv8 r h, okB, getO, Zaw, hc, Zwv, rOf, rOfT]
theorem ZK2 (chip v : Int) (f) : ZTS chip v f = true ∧ pInr chip v f = rInr chip v f := by
 have h := ZuJ chip v (rSum v 1 false).1 (rSum v 1 false).2.2.1 (rSum v 1 false).2.2.2 false f (Zuy _ _ _)
 simp only [ZTS, pInr, ZPX, rInr, ZS5, RT.val, ZIX, h.1, h.2, cond_true, okB, getO, and_self]
theorem ZK6 (chip v : Int) (f) : ZT6 chip v f = true ∧ pDcr chip v f = rDcr chip v f := by
 have h := ZuJ chip v (Zcd v 1 false).1 (Zcd v 1 false).2.2.1 (Zcd v 1 false).2.2.2 true f (Zn0 _ _ _)
 simp only [ZT6, pDcr, ZP4, rDcr, ZTe, RT.val, ZBl, h.1, h.2, cond_true, okB, getO, and_self]
theorem ZTp (chip v : Int) (f) : pInx chip v f = rInx chip v f := by
 simp only [pInx, ZTQ, rInx, ZS2, RT.val, Zaw]
theorem ZTr (chip v : Int) (f) : pDcx chip v f = rDcx chip v f := by
 simp only [pDcx, ZT4, rDcx, ZTb, RT.val, Zaw]
theorem ZK7 (chip a : Int) (f) : ZUa chip a f = true ∧ pDaa chip a f = rDaa chip a f := by
 have h := fun x => of_C _ (Zuy a x false)
 have h2 := fun x => Zv8 _ (Zuy a x false)
 cases hc : chip == 2 <;> simp [ZUa, pDaa, ZP6, rDaa, ZTj, Zob, Zo0, RT.val, ZIX, h, h2, okB, getO, Zaw, hc, Zwv, rOf, rOfT]
theorem ZDn (a b : Int) : ZMk a b = true ∧ ZTZ a b = Zvm a b := by
 have h := fun x y z => of_C _ (Zn0 x y z)
 have h2 := fun x y z => Zv8 _ (Zn0 x y z)
 simp [ZMk, ZTZ, ZDO, Zvm, ZKx, RT.val, ZBl, h, h2, okB, getO, Zwv, ZtG, rOf, rOfT, Bool.cond_self]
theorem ZPy (v : Int) : ZVA v = ZrG v := rfl
theorem ZSe (c : Bool) : pLow c = bif c then 1 else 0 := by cases c <;> rfl
theorem ZKX (op a : Int) (c : Bool) : ZTz op a c = true ∧ pRot op a c = rRot op a c := by
 have h3 := and3 op
 simp only [ZTz, pRot, ZPG, rRot, ZJw, RT.val, ZSe, (ZdA c 0 (by decide)).1, (ZdA c 0 (by decide)).2, (ZdA c 7 (by decide)).1, (ZdA c 7 (by decide)).2]
 generalize andI .i64 op 3 = m at *
 have : m = 0 ∨ m = 1 ∨ m = 2 ∨ m = 3 := by omega
 rcases this with rfl | rfl | rfl | rfl <;> cases c <;> exact ⟨rfl, rfl⟩
theorem ZUX (op a : Int) (c : Bool) : ZSU op a c = true := by
 have h3 := and3 op
 simp only [ZSU, ZJw, RT.val, (ZdA c 0 (by decide)).1, (ZdA c 7 (by decide)).1]
 generalize andI .i64 op 3 = m at *
 have : m = 0 ∨ m = 1 ∨ m = 2 ∨ m = 3 := by omega
 rcases this with rfl | rfl | rfl | rfl <;> rfl
theorem ZPs (v : Int) (c : Bool) (h : inR .u16 v) : ZTE v c = Zu6 v c := by
 have hb := ZdA c 0 (by decide)
 have e : IntKind.wrap .u16 (bif c then 1 else 0) = IntKind.wrap .u16 (bif c then shlI .u8 1 0 else 0) := by cases c <;> rfl
 have hr : ∀ x, inR .u16 (orI .u16 x (IntKind.wrap .u16 (bif c then shlI .u8 1 0 else 0))) := fun x => (Zgu _ _ _).2.1
 simp only [ZTE, ZLs, Zu6, Zu5, RT.val, ZSe, hb.1, hb.2, cond_true, getO, e]
 rw [ZpM _ (Zgu _ _ _).2.2, ZIV _ _ (hr _) h, ZBq _ (hr _), ZBq _ h]
 cases tb (orI .u16 (shlI .u16 v 1) (IntKind.wrap .u16 (bif c then shlI .u8 1 0 else 0))) <;> cases tb v <;> rfl
theorem ZSJ (v : Int) (c : Bool) : ZJE v c = true := by
 have hb := ZdA c 0 (by decide)
 simp [ZJE, Zu5, RT.val, hb.1, okB]
theorem ZTs (chip a b : Int) (f) (ha : inR .u16 a) (hb : inR .u16 b) : pDad chip a b f = rDad chip a b f := by
 have hr : inR .u16 (IntKind.wrap .u16 (a + b)) := ZaZ _ _
 have ha' := Zi4.1 ha
 have hb' := Zi4.1 hb
 simp only [pDad, ZT8, rDad, ZTg, RT.val, Zaw]
 rw [ZpM _ (Zgu _ _ _).1, ZQ3 _ _ (Zgu _ _ _).2.2 (Zgu _ _ _).2.2, ZIV _ _ ha hr, ZIV _ _ hb hr]
 have e1 : decide (IntKind.wrap .u16 (a + b) < a) = decide (IntKind.wrap .i64 (IntKind.wrap .i64 a + IntKind.wrap .i64 b) > 65535) := by
  rw [ZBr, ZH a (by omega) (by omega), ZH b (by omega) (by omega), ZH (a + b) (by omega) (by omega)]
  simp only [decide_eq_decide]; omega
 have e2 : (((tb a) ^^ (tb (IntKind.wrap .u16 (a + b)))) && ((tb b) ^^ (tb (IntKind.wrap .u16 (a + b))))) = (decide (IntKind.wrap .i64 (IntKind.wrap .i64 (IntKind.wrap .i16 a) + IntKind.wrap .i64 (IntKind.wrap .i16 b)) < -32768) || decide (IntKind.wrap .i64 (IntKind.wrap .i64 (IntKind.wrap .i16 a) + IntKind.wrap .i64 (IntKind.wrap .i16 b)) > 32767)) := by
  have ia := ZBs a
  have ib := ZBs b
  have hia : -32768 ≤ IntKind.wrap .i16 a ∧ IntKind.wrap .i16 a ≤ 32767 := by rw [ia]; split <;> omega
  have hib : -32768 ≤ IntKind.wrap .i16 b ∧ IntKind.wrap .i16 b ≤ 32767 := by rw [ib]; split <;> omega
  rw [ZH (IntKind.wrap .i16 a) (by omega) (by omega), ZH (IntKind.wrap .i16 b) (by omega) (by omega), ZH (IntKind.wrap .i16 a + IntKind.wrap .i16 b) (by omega) (by omega)]
  rw [ia, ib, ZBr]
  unfold tb
  by_cases h1 : a ≥ 32768 <;> by_cases h2 : b ≥ 32768 <;> by_cases h3 : (a + b) % 65536 ≥ 32768 <;> simp [h1, h2, h3] <;> (try split) <;> (try split) <;> omega
 rw [e1, e2]
theorem Zzc (c l) : ZTB c l = true ∧ pRim c l = rRim c l ∧ ZSW c l = true := by
 have h : ∀ b n, 0 ≤ n → Zcr b n = true ∧ ZvM b n = bif b then shlI .u8 1 n else 0 := fun b n h => by
  cases b <;> simp [Zcr, ZvM, ZDu, RT.val, h, okB, getO]
 have h3 : ∀ b, Zas b 3 = true ∧ ZfF b 3 = bif b then shlI .u8 1 3 else 0 := fun b => by cases b <;> exact ⟨rfl, rfl⟩
 have h4 : ∀ b, Zas b 4 = true ∧ ZfF b 4 = bif b then shlI .u8 1 4 else 0 := fun b => by cases b <;> exact ⟨rfl, rfl⟩
 have h5 : ∀ b, Zas b 5 = true ∧ ZfF b 5 = bif b then shlI .u8 1 5 else 0 := fun b => by cases b <;> exact ⟨rfl, rfl⟩
 have h6 : ∀ b, Zas b 6 = true ∧ ZfF b 6 = bif b then shlI .u8 1 6 else 0 := fun b => by cases b <;> exact ⟨rfl, rfl⟩
 have h7 : ∀ b, Zas b 7 = true ∧ ZfF b 7 = bif b then shlI .u8 1 7 else 0 := fun b => by cases b <;> exact ⟨rfl, rfl⟩
 simp [ZTB, pRim, ZPI, ZSW, rRim, ZJz, RT.val, h, h3, h4, h5, h6, h7, okB, getO]
theorem ZTn (c) (a : Int) : pSim c a = rSim c a := by
 simp only [pSim, ZTw, rSim, ZJp, RT.val]
theorem ZF6 (s : Int) : Zzi s = Zi s := by
 simp only [Zzi, ZrS, Zi, Zqp, RT.val]
theorem ZKZ (chip op a b : Int) : Zsl chip op a b = true ∧ ∀ f, (andI .i64 op 7 = op) → 4 ≤ op → op ≤ 6 → ZDC chip op a b = rDo chip op a b f := by
 have h := fun x y => of_C _ (Zjh x y).1
 have h' := fun x y => of_C _ (Zjh x y).2.1
 have h'' := fun x y => of_C _ (Zjh x y).2.2
 have g := fun x y => Zv8 _ (Zjh x y).1
 have g' := fun x y => Zv8 _ (Zjh x y).2.1
 have g'' := fun x y => Zv8 _ (Zjh x y).2.2
 have h0 := of_C 0 (by rw [ZfY]; omega)
 constructor
 ·cases h4 : op == 4 <;> cases h5 : op == 5 <;> cases h6 : op == 6 <;> simp [Zsl, ZmW, RT.val, h, h', h'', h0, okB, h4, h5, h6]
 ·intro f e h4 h6
  have : op = 4 ∨ op = 5 ∨ op = 6 := by omega
  rcases this with rfl | rfl | rfl <;> cases hc : chip == 2 <;> simp [ZDC, ZmW, rDo, rDoT, RT.val, h, h', h'', g, g', g'', getO, e, Zaw, hc, Zob, Zo0, rOf, rOfT, Zwv]
theorem ZRO (chip op a b : Int) (f) : pDoC chip op a b f = true ∧ pDo chip op a b f = rDo chip op a b f := by
 have h7 := and7 op
 have hs := fun x => of_C _ (Zuy a b x)
 have hs2 := fun x => Zv8 _ (Zuy a b x)
 have hd := fun x => of_C _ (Zn0 a b x)
 have hd2 := fun x => Zv8 _ (Zn0 a b x)
 have hl := ZKZ chip (andI .i64 op 7) a b
 have hlt : decide (b < 128) = !decide (128 ≤ b) := by
  by_cases h : b < 128
  ·have : ¬ 128 ≤ b := by omega
   simp [h, this]
  ·have : 128 ≤ b := by omega
   simp [h, this]
 have hr : rDo chip (andI .i64 op 7) a b f = rDo chip op a b f := by
  have : andI .i64 (andI .i64 op 7) 7 = andI .i64 op 7 := by
   generalize andI .i64 op 7 = m at *
   rcases ZNO h7 with rfl | rfl | rfl | rfl | rfl | rfl | rfl | rfl <;> rfl
  simp only [rDo, rDoT, this]
 have he : andI .i64 (andI .i64 op 7) 7 = andI .i64 op 7 := by
  generalize andI .i64 op 7 = m at *
  rcases ZNO h7 with rfl | rfl | rfl | rfl | rfl | rfl | rfl | rfl <;> rfl
 rw [← hr]
 have hl2 := hl.2 f he
 have hl1 := hl.1
 clear hl hr
 simp only [pDoC, pDo, pDoT, RT.val]
 generalize andI .i64 op 7 = m at *
 rcases ZNO h7 with rfl | rfl | rfl | rfl | rfl | rfl | rfl | rfl
 case inr.inr.inr.inr.inl => simp [hl1, hl2, okB, getO]
 case inr.inr.inr.inr.inr.inl => simp [hl1, hl2, okB, getO]
 case inr.inr.inr.inr.inr.inr.inl => simp [hl1, hl2, okB, getO]
 all_goals cases hc : chip == 2 <;> simp [rDo, rDoT, RT.val, ZIX, ZBl, hs, hs2, hd, hd2, okB, getO, he, Zaw, hc, Zob, Zo0, rOf, rOfT, Zwv, hlt]
theorem ZK5 (chip op : Int) (h : chip ≠ 2) : (ZeW chip op).val = (ZeW 0 op).val := by
 have h1 : (chip == 2) = false := by simpa using h
 have h0 : ((0 : Int) == 2) = false := rfl
 simp only [ZeW, RT.val, h1, h0]
theorem ZkT (chip op : Int) (h : chip ≠ 2) : (ZeS chip op).val = (ZeS 0 op).val := by
 have h1 : rOn chip = false := by simpa [Zaw] using h
 have h0 : rOn 0 = false := rfl
 simp only [ZeS, RT.val, h1, h0]
def decT (chip op : Int) : Bool := okB (ZeW chip op).val && okB (ZeS chip op).val && (Zm3 chip op == Za chip op)
theorem dec_ok (chip op : Int) (h : inR .u8 op) : Zkk chip op = true ∧ Zm3 chip op = Za chip op ∧ Zkb chip op = true := by
 have fin : ∀ c, decT c op = true → Zkk c op = true ∧ Zm3 c op = Za c op ∧ Zkb c op = true := by
  intro c hc
  simp only [decT, Bool.and_eq_true, beq_iff_eq] at hc
  exact ⟨hc.1.1, hc.2, hc.1.2⟩
 by_cases hc : chip = 2
 ·subst hc; exact fin 2 (Ze7 (decT 2) (by kernel_rfl) op h)
 ·have := fin 0 (Ze7 (decT 0) (by kernel_rfl) op h)
  unfold Zkk Zm3 Za Zkb at this ⊢
  rw [ZK5 chip op hc, ZkT chip op hc]; exact this
def Zsp : Entry := Zf ZAk ZAl (fun _ => none) (fun a => Zcp a.1 a.2)
theorem ZvT : Zc Tryz.prog 236 Zsp := Zkj.tot (fun a h => by simp) (fun a h => ZtG _ _)
def ZR3 : Entry := Zf ZL8 ZL9 (fun _ => none) (fun a => rGet a.1 a.2)
theorem ZPY : Zc Tryz.prog 287 ZR3 := ZL7.tot (fun a h => by simp) (fun a h => ZK4 _ _)
def ZlU : Entry := Zf ZKg ZCX (fun _ => none) (fun a => rGet a.1 a.2)
theorem ZqX : Zc Tryz.prog 163 ZlU := ZKf.tot (fun a h => by have h1 := ZUy a.1 a.2; simp [h1]) (fun a h => rfl)
def ZvJ : Entry := Zf ZLf ZLg (fun _ => none) (fun a => rSet a.1 a.2.1 a.2.2)
theorem ZDr : Zc Tryz.prog 268 ZvJ := ZLe.tot (fun a h => by simp) (fun a h => ZKV _ _ _)
def ZLB : Entry := Zf Zzy Zzz (fun _ => none) (fun a => Zai a.1 a.2)
theorem ZLA : Zc Tryz.prog 286 ZLB := ZPN.tot (fun a h => by simp) (fun a h => ZPt _ _)
def Zfz : Entry := Zf Zx1 ZqF (fun _ => none) (fun a => Zai a.1 a.2)
theorem ZhH : Zc Tryz.prog 158 Zfz := ZO9.tot (fun a h => by have h1 := ZSK a.1 a.2; simp [h1]) (fun a h => rfl)
def ZbJ : Entry := Zf ZiJ ZiK (fun _ => none) (fun a => Zs a.1 a.2.1 a.2.2)
theorem Zd2 : Zc Tryz.prog 269 ZbJ := Zzn.tot (fun a h => by simp) (fun a h => Zzb _ _ _)
def ZLE : Entry := Zf ZLD ZDz (fun _ => none) (fun a => rPSW a.1 a.2)
theorem ZPR : Zc Tryz.prog 290 ZLE := ZTH.tot (fun a h => by have h1 := (ZKY a.1 a.2).1; simp [h1]) (fun a h => (ZKY _ _).2)
def ZJT : Entry := Zf ZJR ZCL (fun _ => none) (fun a => rPSW a.1 a.2)
theorem ZPc : Zc Tryz.prog 171 ZJT := ZSY.tot (fun a h => by have h1 := ZUY a.1 a.2; simp [h1]) (fun a h => rfl)
def Zmf : Entry := Zf Zmd Zme (fun _ => none) (fun a => Zfx a.1 a.2.1 a.2.2)
theorem Zzo : Zc Tryz.prog 281 Zmf := ZGg.tot (fun a h => by simp) (fun a h => ZF9 _ _ _)
def ZT2 : Entry := Zf ZT0 ZP1 (fun _ => none) (fun a => rDo a.1 a.2.1 a.2.2.1 a.2.2.2.1 a.2.2.2.2)
theorem ZT1 : Zc Tryz.prog 271 ZT2 := ZVx.tot (fun a h => by have h1 := (ZRO a.1 a.2.1 a.2.2.1 a.2.2.2.1 a.2.2.2.2).1; simp [h1]) (fun a h => (ZRO _ _ _ _ _).2)
def ZDJ : Entry := Zf ZL1 ZDH (fun _ => none) (fun a => rInr a.1 a.2.1 a.2.2)
theorem ZDI : Zc Tryz.prog 273 ZDJ := ZTR.tot (fun a h => by have h1 := (ZK2 a.1 a.2.1 a.2.2).1; simp [h1]) (fun a h => (ZK2 _ _ _).2)
def ZDT : Entry := Zf ZMs ZDR (fun _ => none) (fun a => rDcr a.1 a.2.1 a.2.2)
theorem ZDS : Zc Tryz.prog 274 ZDT := ZT5.tot (fun a h => by have h1 := (ZK6 a.1 a.2.1 a.2.2).1; simp [h1]) (fun a h => (ZK6 _ _ _).2)
def ZL0 : Entry := Zf ZLY ZLZ (fun _ => none) (fun a => rInx a.1 a.2.1 a.2.2)
theorem ZPW : Zc Tryz.prog 275 ZL0 := ZTP.tot (fun a h => by simp) (fun a h => ZTp _ _ _)
def ZMr : Entry := Zf ZMp ZMq (fun _ => none) (fun a => rDcx a.1 a.2.1 a.2.2)
theorem ZP3 : Zc Tryz.prog 276 ZMr := ZT3.tot (fun a h => by simp) (fun a h => ZTr _ _ _)
def ZMx : Entry := Zf ZMw ZDU (fun _ => none) (fun a => rDaa a.1 a.2.1 a.2.2)
theorem ZP7 : Zc Tryz.prog 278 ZMx := ZT9.tot (fun a h => by have h1 := (ZK7 a.1 a.2.1 a.2.2).1; simp [h1]) (fun a h => (ZK7 _ _ _).2)
def ZMv : Entry := Zf ZMt ZMu (fun _ => none) (fun a => rDad a.1 a.2.1 a.2.2.1 a.2.2.2)
theorem ZP5 : Zc Tryz.prog 277 ZMv := ZT7.tot (fun a h => by simp) (fun a h => ZTs _ _ _ _ h.2.1 h.2.2.1)
def ZAz : Entry := Zf ZAy Zs6 (fun _ => none) (fun a => Zvm a.1 a.2)
theorem ZMl : Zc Tryz.prog 283 ZAz := ZP0.tot (fun a h => by have h1 := (ZDn a.1 a.2).1; simp [h1]) (fun a h => (ZDn _ _).2)
def ZAD : Entry := Zf ZAB ZAC (fun _ => none) (fun a => ZrG a)
theorem ZMF : Zc Tryz.prog 284 ZAD := ZP9.tot (fun a h => by simp) (fun a h => ZPy _)
def ZLl : Entry := Zf ZLk ZDv (fun _ => none) (fun a => rRot a.1 a.2.1 a.2.2)
theorem ZPH : Zc Tryz.prog 279 ZLl := ZTy.tot (fun a h => by have h1 := (ZKX a.1 a.2.1 a.2.2).1; simp [h1]) (fun a h => (ZKX _ _ _).2)
def ZJx : Entry := Zf ZJv ZCs (fun _ => none) (fun a => rRot a.1 a.2.1 a.2.2)
theorem ZOZ : Zc Tryz.prog 213 ZJx := ZST.tot (fun a h => by have h1 := ZUX a.1 a.2.1 a.2.2; simp [h1]) (fun a h => rfl)
def Zzv : Entry := Zf Zzt Zzu (fun _ => none) (fun a => Zu6 a.1 a.2)
theorem ZLt : Zc Tryz.prog 285 Zzv := ZPK.tot (fun a h => by simp) (fun a h => ZPs _ _ h.1)
def ZxX : Entry := Zf ZxW ZqA (fun _ => none) (fun a => Zu6 a.1 a.2)
theorem ZJF : Zc Tryz.prog 216 ZxX := ZO2.tot (fun a h => by have h1 := ZSJ a.1 a.2; simp [h1]) (fun a h => rfl)
def ZLn : Entry := Zf ZLm ZDw (fun _ => none) (fun a => rRim a.1 a.2)
theorem ZPJ : Zc Tryz.prog 227 ZLn := ZTA.tot (fun a h => by have h1 := (Zzc a.1 a.2).1; simp [h1]) (fun a h => (Zzc _ _).2.1)
def ZRd : Entry := Zf ZJy ZCt (fun _ => none) (fun a => rRim a.1 a.2)
theorem ZO0 : Zc Tryz.prog 159 ZRd := ZSV.tot (fun a h => by have h1 := (Zzc a.1 a.2).2.2; simp [h1]) (fun a h => rfl)
def ZLd : Entry := Zf ZLb ZLc (fun _ => none) (fun a => rSim a.1 a.2)
theorem ZPD : Zc Tryz.prog 228 ZLd := ZTv.tot (fun a h => by simp) (fun a h => ZTn _ _)
def ZDM : Entry := Zf Zsq Zsr (fun _ => none) (fun a => Zd1 a.1 a.2)
theorem ZGv : Zc Tryz.prog 322 ZDM := ZL5.tot (fun a h => by simp) (fun a h => ZQt _ _)
def ZvD : Entry := Zf Zl6 Zl7 (fun _ => none) (fun a => Zi a)
theorem Zzh : Zc Tryz.prog 177 ZvD := ZGd.tot (fun a h => by simp) (fun a h => ZF6 _)
def ZvX : Entry := Zf ZhW ZhX (fun _ => none) (fun a => Za a.1 a.2)
theorem Zm2 : Zc Tryz.prog 182 ZvX := ZG9.tot (fun a h => by have h1 := (dec_ok a.1 a.2 h.2).1; simp [h1]) (fun a h => (dec_ok a.1 a.2 h.2).2.1)
def Zvn : Entry := Zf ZhK ZhL (fun _ => none) (fun a => Za a.1 a.2)
theorem ZlV : Zc Tryz.prog 107 Zvn := ZF4.tot (fun a h => by have h1 := (dec_ok a.1 a.2 h.2).2.2; simp [h1]) (fun a h => rfl)
abbrev ZSg : R := R.pair (.int .i64) (R.pair (.int .i64) (R.pair (.int .i64) (R.pair (.int .i64) (R.pair (.int .i64) (R.pair (.int .i64) (.int .i64))))))
def ZvY (k : Int) : Entry := pinE ZhW ZSg (fun a => Za a.1 a.2) k
theorem ZDQ (k : Int) : Zc Tryz.prog 182 (ZvY k) := ZK3 Zm2 k
def ZKC (k : Int) : Entry := pinE ZhK ZSg (fun a => Za a.1 a.2) k
theorem ZC7 (k : Int) : Zc Tryz.prog 107 (ZKC k) := ZK3 ZlV k
def pcOf (c : TC) : Int := c.2.1.2.2.2.2.2.2.2.2.2
def spOf (c : TC) : Int := c.2.1.2.2.2.2.2.2.2.2.1
def rgx (r : TR) (f : TF) (sp pc : Int) : TR := (r.1, r.2.1, r.2.2.1, r.2.2.2.1, r.2.2.2.2.1, r.2.2.2.2.2.1, r.2.2.2.2.2.2.1, f, sp, pc)
def fin3 (g : List Int) (l : List TY) : RT (Option (TY × Bool)) := .br (decide (iN (List.length g) ≥ iN (List.length l))) (.leaf (some (((0, 0, 0, 0), false)))) (.br (Zg (iN (List.length g)) (List.length l)) (.leaf (some ((R.get RY l (iN (List.length g)), true)))) (.leaf none))
abbrev Zm0 : List Sh := [Sh.one (R.int i64)]
abbrev Zm1 : Rs := Rs.one (Sh.one R.bool)
def Zpm (s : Int) : RT (Bool) :=
 .leaf (decide (s ≥ 1) && decide (s ≤ 4))
def Ze (s : Int) : Bool := (Zpm s).val
def ZiL : Entry := Zf Zm0 Zm1 (fun _ => none) (fun a => Ze a)
theorem Zjr : Zc Tryz.prog 176 ZiL :=
 pureQ 7 [] [] Zm0 Zm1 trivial Tryz.func176 Tryz.call176 trivial (t := fun a => Zpm a) (fun a => by kernel_rfl)
abbrev ZVk : R := R.pair Zx (R.pair R.bool (R.pair (R.sl (R.int u8)) (R.pair (R.pair (R.int i64) (R.pair (R.int i64) (R.pair (R.int i64) (R.pair (R.int i64) (R.pair (R.int i64) (R.pair (R.int i64) (R.pair (R.int i64) (R.int i64)))))))) (R.sl (RY)))))
abbrev ZVj : List Sh := [Sh.one (R.int i64)]
abbrev ZTm : Rs := Rs.one (Sh.one (R.int u8))
def qAtT (s : QT1) (n : Int) : RT (Option (Int)) :=
 .br (!decide (n < ↑(List.length s.2.2.1)) || Zg n (List.length s.2.2.1)) (.br (decide (n < ↑(List.length s.2.2.1))) (.leaf (some (R.get (R.int u8) s.2.2.1 n))) (.leaf (some (0)))) (.leaf none)
def qAt (s : QT1) (n : Int) : Int := getO ZTm.dflt (qAtT s n).val
def qAtC (s : QT1) (n : Int) : Bool := okB (qAtT s n).val
def qAtE : Entry := ZgY ZVk ZVj ZTm (fun a => some (qAtC a.1 a.2)) (fun a => qAt a.1 a.2)
theorem ZhS : Zc Tryz.prog 222 qAtE :=
 Zev (P := Tryz.prog) (n := 31) (k := 8) (l := []) (ol := []) trivial Tryz.func222 rfl (by kernel_rfl) Tryz.call222 trivial (rb := ZVk) (ts := ZVj) (rs := ZTm) (by kernel_rfl) (t := fun a => qAtT a.1 a.2) (fun a => by kernel_rfl)
abbrev ZKT : R := R.pair Zx (R.pair R.bool (R.pair (R.sl (R.int u8)) (R.pair (R.pair (R.int i64) (R.pair (R.int i64) (R.pair (R.int i64) (R.pair (R.int i64) (R.pair (R.int i64) (R.pair (R.int i64) (R.pair (R.int i64) (R.int i64)))))))) (R.sl (RY)))))
abbrev ZKS : List Sh := [Sh.one (R.int i64)]
abbrev Zy8 : Rs := Rs.one (Sh.one (R.int u16))
def Zvs (s : QT1) (n : Int) : RT (Option (Int)) :=
 .br (!qAtC s (i64.wrap (n + 1)) || qAtC s n) (.br (qAtC s (i64.wrap (n + 1))) (.leaf (some (Zcp (qAt s (i64.wrap (n + 1))) (qAt s n)))) (.leaf none)) (.leaf none)
def ZfI (s : QT1) (n : Int) : Int := getO Zy8.dflt (Zvs s n).val
def Zcq (s : QT1) (n : Int) : Bool := okB (Zvs s n).val
def Zl0 : Entry := ZgY ZKT ZKS Zy8 (fun a => some (Zcq a.1 a.2)) (fun a => ZfI a.1 a.2)
theorem ZrI : Zc Tryz.prog 270 Zl0 :=
 Zev (P := Tryz.prog) (n := 31) (k := 8) (l := [(222, qAtE), (236, Zsp)]) (ol := []) ⟨ZhS, ZvT, trivial⟩ Tryz.func270 rfl (by kernel_rfl) Tryz.call270 trivial (rb := ZKT) (ts := ZKS) (rs := Zy8) (by kernel_rfl) (t := fun a => Zvs a.1 a.2) (fun a => by kernel_rfl)
abbrev Zvv : R := R.pair Zx (R.pair R.bool (R.pair (R.sl (R.int u8)) (R.pair (R.pair (R.int i64) (R.pair (R.int i64) (R.pair (R.int i64) (R.pair (R.int i64) (R.pair (R.int i64) (R.pair (R.int i64) (R.pair (R.int i64) (R.int i64)))))))) (R.sl (RY)))))
abbrev Zvt : List Sh := []
abbrev Zvu : Rs := Rs.one (Sh.one (R.int u16))
def ZDf (s : QT1) : RT (Int) :=
 .br s.2.1 (.leaf s.1.2.1.2.2.2.2.2.2.2.2.2) (.leaf (u16.wrap (s.1.2.1.2.2.2.2.2.2.2.2.2 + u16.wrap s.2.2.2.1.2.1)))
def ZD (s : QT1) : Int := (ZDf s).val
def ZhR : Entry := ZgY Zvv Zvt Zvu (fun _ => none) (fun a => ZD a.1 )
theorem Zpe : Zc Tryz.prog 223 ZhR :=
 Zgd (P := Tryz.prog) (n := 7) (k := 8) (l := []) (ol := []) trivial Tryz.func223 rfl (by kernel_rfl) Tryz.call223 trivial (rb := Zvv) (ts := Zvt) (rs := Zvu) (by kernel_rfl) (t := fun a => ZDf a.1 ) (fun a => by kernel_rfl)
abbrev ZDe : R := R.pair Zx (R.pair R.bool (R.pair (R.sl (R.int u8)) (R.pair (R.pair (R.int i64) (R.pair (R.int i64) (R.pair (R.int i64) (R.pair (R.int i64) (R.pair (R.int i64) (R.pair (R.int i64) (R.pair (R.int i64) (R.int i64)))))))) (R.sl (RY)))))
abbrev ZDc : List Sh := []
abbrev ZDd : Rs := Rs.one (Sh.one R.bool)
def ZKO (s : QT1) : RT (Bool) :=
 .leaf (Zd1 s.2.2.2.1.2.2.2.2.2.2.1 s.1.2.1.2.2.2.2.2.2.2.1)
def ZgJ (s : QT1) : Bool := (ZKO s).val
def Zg0 : Entry := ZgY ZDe ZDc ZDd (fun _ => none) (fun a => ZgJ a.1 )
theorem ZlY : Zc Tryz.prog 280 Zg0 :=
 Zgd (P := Tryz.prog) (n := 7) (k := 8) (l := [(322, ZDM)]) (ol := []) ⟨ZGv, trivial⟩ Tryz.func280 rfl (by kernel_rfl) Tryz.call280 trivial (rb := ZDe) (ts := ZDc) (rs := ZDd) (by kernel_rfl) (t := fun a => ZKO a.1 ) (fun a => by kernel_rfl)
abbrev ZRM : R := R.pair Zx (R.pair R.bool (R.pair (R.sl (R.int u8)) (R.pair (R.pair (R.int i64) (R.pair (R.int i64) (R.pair (R.int i64) (R.pair (R.int i64) (R.pair (R.int i64) (R.pair (R.int i64) (R.pair (R.int i64) (R.int i64)))))))) (R.sl (RY)))))
abbrev ZRK : List Sh := [Sh.one (R.int i64)]
abbrev ZRL : Rs := Rs.one (Sh.one (R.int u8))
def ZVi (s : QT1) (n : Int) : RT (Int) :=
 .leaf (rGet s.1.2.1 n)
def qReg (s : QT1) (n : Int) : Int := (ZVi s n).val
def Zvr : Entry := ZgY ZRM ZRK ZRL (fun _ => none) (fun a => qReg a.1 a.2)
theorem ZrH : Zc Tryz.prog 232 Zvr :=
 Zgd (P := Tryz.prog) (n := 31) (k := 8) (l := [(287, ZR3)]) (ol := []) ⟨ZPY, trivial⟩ Tryz.func232 rfl (by kernel_rfl) Tryz.call232 trivial (rb := ZRM) (ts := ZRK) (rs := ZRL) (by kernel_rfl) (t := fun a => ZVi a.1 a.2) (fun a => by kernel_rfl)
abbrev ZKR : R := R.pair Zx (R.pair R.bool (R.pair (R.sl (R.int u8)) (R.pair (R.pair (R.int i64) (R.pair (R.int i64) (R.pair (R.int i64) (R.pair (R.int i64) (R.pair (R.int i64) (R.pair (R.int i64) (R.pair (R.int i64) (R.int i64)))))))) (R.sl (RY)))))
abbrev ZKP : List Sh := [Sh.one (R.int i64)]
abbrev ZKQ : Rs := Rs.one (Sh.one (R.int u16))
def ZRN (s : QT1) (n : Int) : RT (Int) :=
 .leaf (Zai s.1.2.1 n)
def ZdG (s : QT1) (n : Int) : Int := (ZRN s n).val
def ZfG : Entry := ZgY ZKR ZKP ZKQ (fun _ => none) (fun a => ZdG a.1 a.2)
theorem ZhM : Zc Tryz.prog 231 ZfG :=
 Zgd (P := Tryz.prog) (n := 31) (k := 8) (l := [(286, ZLB)]) (ol := []) ⟨ZLA, trivial⟩ Tryz.func231 rfl (by kernel_rfl) Tryz.call231 trivial (rb := ZKR) (ts := ZKP) (rs := ZKQ) (by kernel_rfl) (t := fun a => ZRN a.1 a.2) (fun a => by kernel_rfl)
abbrev Zpd : R := R.pair Zx (R.pair R.bool (R.pair (R.sl (R.int u8)) (R.pair (R.pair (R.int i64) (R.pair (R.int i64) (R.pair (R.int i64) (R.pair (R.int i64) (R.pair (R.int i64) (R.pair (R.int i64) (R.pair (R.int i64) (R.int i64)))))))) (R.sl (RY)))))
abbrev Zpc : List Sh := []
abbrev ZiG : Rs := Rs.one (Sh.one (R.int u8))
def ZhP (s : QT1) : RT (Option (Int)) :=
 .br (qAtC s 1) (.leaf (some (bif s.2.2.2.1.1 == 14 then (rInr s.1.1 (qAt s 1) s.1.2.1.2.2.2.2.2.2.2.1).1 else (rDcr s.1.1 (qAt s 1) s.1.2.1.2.2.2.2.2.2.2.1).1))) (.leaf none)
def ZhQ (s : QT1) : Int := getO ZiG.dflt (ZhP s).val
def ZfJ (s : QT1) : Bool := okB (ZhP s).val
def Zl1 : Entry := ZgY Zpd Zpc ZiG (fun a => some (ZfJ a.1 )) (fun a => ZhQ a.1 )
theorem Zy9 : Zc Tryz.prog 234 Zl1 :=
 Zev (P := Tryz.prog) (n := 15) (k := 8) (l := [(222, qAtE), (273, ZDJ), (274, ZDT)]) (ol := []) ⟨ZhS, ZDI, ZDS, trivial⟩ Tryz.func234 rfl (by kernel_rfl) Tryz.call234 trivial (rb := Zpd) (ts := Zpc) (rs := ZiG) (by kernel_rfl) (t := fun a => ZhP a.1 ) (fun a => by kernel_rfl)
abbrev Zpb : R := R.pair Zx (R.pair R.bool (R.pair (R.sl (R.int u8)) (R.pair (R.pair (R.int i64) (R.pair (R.int i64) (R.pair (R.int i64) (R.pair (R.int i64) (R.pair (R.int i64) (R.pair (R.int i64) (R.pair (R.int i64) (R.int i64)))))))) (R.sl (RY)))))
abbrev Zpa : List Sh := []
abbrev ZiF : Rs := Rs.one (Sh.one (R.int u8))
def ZhN (s : QT1) : RT (Option (Int)) :=
 let x1 := s.2.2.2.1.1 == 13 || s.2.2.2.1.2.2.2.1 == 6
 .br (!x1 || qAtC s 1) (.br (x1) (.leaf (some (qAt s 1))) (.leaf (some (qReg s s.2.2.2.1.2.2.2.1)))) (.leaf none)
def ZhO (s : QT1) : Int := getO ZiF.dflt (ZhN s).val
def ZfH (s : QT1) : Bool := okB (ZhN s).val
def ZlZ : Entry := ZgY Zpb Zpa ZiF (fun a => some (ZfH a.1 )) (fun a => ZhO a.1 )
theorem Zy7 : Zc Tryz.prog 272 ZlZ :=
 Zev (P := Tryz.prog) (n := 7) (k := 8) (l := [(222, qAtE), (232, Zvr)]) (ol := []) ⟨ZhS, ZrH, trivial⟩ Tryz.func272 rfl (by kernel_rfl) Tryz.call272 trivial (rb := Zpb) (ts := Zpa) (rs := ZiF) (by kernel_rfl) (t := fun a => ZhN a.1 ) (fun a => by kernel_rfl)
abbrev ZVH : R := R.pair Zx (R.pair R.bool (R.pair (R.sl (R.int u8)) (R.sl (RY))))
abbrev ZVG : List Sh := [Sh.one (R.int i64)]
abbrev ZUn : Rs := Rs.one (Sh.one (R.int u8))
def mAtT (s : QT4) (n : Int) : RT (Option (Int)) :=
 .br (!decide (n < ↑(List.length s.2.2.1)) || Zg n (List.length s.2.2.1)) (.br (decide (n < ↑(List.length s.2.2.1))) (.leaf (some (R.get (R.int u8) s.2.2.1 n))) (.leaf (some (0)))) (.leaf none)
def mAt (s : QT4) (n : Int) : Int := getO ZUn.dflt (mAtT s n).val
def mAtC (s : QT4) (n : Int) : Bool := okB (mAtT s n).val
def mAtE : Entry := ZgY ZVH ZVG ZUn (fun a => some (mAtC a.1 a.2)) (fun a => mAt a.1 a.2)
theorem ZwA : Zc Tryz.prog 153 mAtE :=
 Zev (P := Tryz.prog) (n := 31) (k := 8) (l := []) (ol := []) trivial Tryz.func153 rfl (by kernel_rfl) Tryz.call153 trivial (rb := ZVH) (ts := ZVG) (rs := ZUn) (by kernel_rfl) (t := fun a => mAtT a.1 a.2) (fun a => by kernel_rfl)
abbrev ZNj : R := R.pair Zx (R.pair R.bool (R.pair (R.sl (R.int u8)) (R.sl (RY))))
abbrev ZNi : List Sh := [Sh.one (R.int i64)]
abbrev ZA6 : Rs := Rs.one (Sh.one (R.int u16))
def ZD8 (s : QT4) (n : Int) : RT (Option (Int)) :=
 .br (!mAtC s (i64.wrap (n + 1)) || mAtC s n) (.br (mAtC s (i64.wrap (n + 1))) (.leaf (some (Zcp (mAt s (i64.wrap (n + 1))) (mAt s n)))) (.leaf none)) (.leaf none)
def Zei (s : QT4) (n : Int) : Int := getO ZA6.dflt (ZD8 s n).val
def ZbX (s : QT4) (n : Int) : Bool := okB (ZD8 s n).val
def Znq : Entry := ZgY ZNj ZNi ZA6 (fun a => some (ZbX a.1 a.2)) (fun a => Zei a.1 a.2)
theorem Ztx : Zc Tryz.prog 165 Znq :=
 Zev (P := Tryz.prog) (n := 31) (k := 8) (l := [(153, mAtE), (172, ZlR)]) (ol := []) ⟨ZwA, ZhJ, trivial⟩ Tryz.func165 rfl (by kernel_rfl) Tryz.call165 trivial (rb := ZNj) (ts := ZNi) (rs := ZA6) (by kernel_rfl) (t := fun a => ZD8 a.1 a.2) (fun a => by kernel_rfl)
abbrev Zwz : R := R.pair Zx (R.pair R.bool (R.pair (R.sl (R.int u8)) (R.sl (RY))))
abbrev Zwx : List Sh := [Sh.one (R.int i64)]
abbrev Zwy : Rs := Rs.one (Sh.one (R.int u16))
def ZEd (s : QT4) (n : Int) : RT (Int) :=
 .br s.2.1 (.leaf s.1.2.1.2.2.2.2.2.2.2.2.2) (.leaf (u16.wrap (s.1.2.1.2.2.2.2.2.2.2.2.2 + u16.wrap n)))
def ZA (s : QT4) (n : Int) : Int := (ZEd s n).val
def Zgq : Entry := ZgY Zwz Zwx Zwy (fun _ => none) (fun a => ZA a.1 a.2)
theorem ZiY : Zc Tryz.prog 157 Zgq :=
 Zgd (P := Tryz.prog) (n := 31) (k := 8) (l := []) (ol := []) trivial Tryz.func157 rfl (by kernel_rfl) Tryz.call157 trivial (rb := Zwz) (ts := Zwx) (rs := Zwy) (by kernel_rfl) (t := fun a => ZEd a.1 a.2) (fun a => by kernel_rfl)
abbrev ZEb : R := R.pair Zx (R.pair R.bool (R.pair (R.sl (R.int u8)) (R.sl (RY))))
abbrev ZD9 : List Sh := [Sh.agg (R.pair (R.int i64) (R.pair (R.int i64) (R.pair (R.int i64) (R.pair (R.int i64) (R.pair (R.int i64) (R.pair (R.int i64) (R.pair (R.int i64) (R.int i64))))))))]
abbrev ZEa : Rs := Rs.one (Sh.one R.bool)
def ZNk (s : QT4) (i : QT5) : RT (Bool) :=
 .leaf (Zd1 i.2.2.2.2.2.2.1 s.1.2.1.2.2.2.2.2.2.2.1)
def Zd6 (s : QT4) (i : QT5) : Bool := (ZNk s i).val
def Zg8 : Entry := ZgY ZEb ZD9 ZEa (fun _ => none) (fun a => Zd6 a.1 a.2)
theorem Znr : Zc Tryz.prog 169 Zg8 :=
 Zgd (P := Tryz.prog) (n := 31) (k := 8) (l := [(220, ZKe)]) (ol := []) ⟨ZKd, trivial⟩ Tryz.func169 rfl (by kernel_rfl) Tryz.call169 trivial (rb := ZEb) (ts := ZD9) (rs := ZEa) (by kernel_rfl) (t := fun a => ZNk a.1 a.2) (fun a => by kernel_rfl)
abbrev ZoN : List Sh := [Sh.agg Zx, Sh.agg (R.pair (R.int i64) (R.pair (R.int i64) (R.pair (R.int i64) (R.pair (R.int i64) (R.pair (R.int i64) (R.pair (R.int i64) (R.pair (R.int i64) (R.int i64)))))))), Sh.one (R.int u8)]
abbrev ZoO : Rs := Rs.tup [Sh.one (R.int u8), Sh.agg rcF7]
def ZuU (c : TC) (i : QT5) (v : Int) : RT (QT3) :=
 .br (i.1 == 14) (.leaf (rInr c.1 v c.2.1.2.2.2.2.2.2.2.1)) (.leaf (rDcr c.1 v c.2.1.2.2.2.2.2.2.2.1))
def Zge (c : TC) (i : QT5) (v : Int) : QT3 := (ZuU c i v).val
def Zfu : Entry := Zf ZoN ZoO (fun _ => none) (fun a => Zge a.1 a.2.1 a.2.2)
theorem Zk1 : Zc Tryz.prog 166 Zfu :=
 pureQ 255 [(218, ZVb), (219, ZVh)] [] ZoN ZoO ⟨ZS4, ZTd, trivial⟩ Tryz.func166 Tryz.call166 trivial (t := fun a => ZuU a.1 a.2.1 a.2.2) (fun a => by kernel_rfl)
abbrev Zss : List Sh := [Sh.one (R.int i64), Sh.one (R.int u8)]
abbrev Zst : Rs := Rs.one (Sh.one (R.int i64))
def ZAn (chip : Int) (op : Int) : RT (Int) :=
 .br ((Za chip op).1 == 2) (.br (!chip == 2 && ((Za chip op).2.2.1 != 6 && (Za chip op).2.2.2.1 != 6)) (.leaf (5)) (.leaf (4))) (.br (bif (Za chip op).1 == 14 then (Za chip op).1 == 14 else (Za chip op).1 == 15) (.br (!chip == 2 && (Za chip op).2.2.1 != 6) (.leaf (5)) (.leaf (4))) (.br ((Za chip op).1 == 37) (.br (chip == 2) (.leaf (5)) (.leaf (4))) (.br ((Za chip op).1 == 26) (.br ((Za chip op).2.2.2.2.2.2.1 == 11) (.leaf (4)) (.br (chip == 2) (.leaf (6)) (.leaf (5)))) (.br (bif (Za chip op).1 == 16 then (Za chip op).1 == 16 else bif (Za chip op).1 == 17 then (Za chip op).1 == 17 else bif (Za chip op).1 == 28 then (Za chip op).1 == 28 else bif (Za chip op).1 == 29 then (Za chip op).1 == 29 else bif (Za chip op).1 == 25 then (Za chip op).1 == 25 else bif (Za chip op).1 == 27 then (Za chip op).1 == 27 else bif (Za chip op).1 == 45 then (Za chip op).1 == 45 else (Za chip op).1 == 30) (.br (chip == 2) (.leaf (6)) (.leaf (5))) (.leaf (4))))))
def Zpn (chip : Int) (op : Int) : Int := (ZAn chip op).val
def ZTV : Entry := Zf Zss Zst (fun _ => none) (fun a => Zpn a.1 a.2)
theorem ZMa : Zc Tryz.prog 115 ZTV :=
 pureQ 72842913792127 [(182, ZvX)] [] Zss Zst ⟨Zm2, trivial⟩ Tryz.func115 Tryz.call115 trivial (t := fun a => ZAn a.1 a.2) (fun a => by kernel_rfl)
abbrev ZC0 : List Sh := [Sh.one (R.int i64), Sh.one (R.int u8)]
abbrev ZC1 : Rs := Rs.one (Sh.one (R.int i64))
def ZyS (chip : Int) (op : Int) : RT (Int) :=
 let x1 := bif (Za chip op).1 == 14 then (Za chip op).1 == 14 else (Za chip op).1 == 15
 let x2 := !(Za chip op).1 == 2 && (!x1 && ((bif (Za chip op).1 == 16 then (Za chip op).1 == 16 else bif (Za chip op).1 == 17 then (Za chip op).1 == 17 else bif (Za chip op).1 == 28 then (Za chip op).1 == 28 else bif (Za chip op).1 == 29 then (Za chip op).1 == 29 else bif (Za chip op).1 == 25 then (Za chip op).1 == 25 else bif (Za chip op).1 == 27 then (Za chip op).1 == 27 else bif (Za chip op).1 == 30 then (Za chip op).1 == 30 else (Za chip op).1 == 45) || (Za chip op).1 == 26 && (Za chip op).2.2.2.2.2.2.1 != 11))
 .br (rOn chip && x2) (.leaf (6)) (.br (rOn chip && (Za chip op).1 == 37) (.leaf (5)) (.br (!rOn chip && (x2 || bif (Za chip op).1 == 2 then (Za chip op).2.2.1 != 6 && (Za chip op).2.2.2.1 != 6 else x1 && (Za chip op).2.2.1 != 6)) (.leaf (5)) (.leaf (4))))
def ZfD (chip : Int) (op : Int) : Int := (ZyS chip op).val
def ZyT : Entry := Zf ZC0 ZC1 (fun _ => none) (fun a => ZfD a.1 a.2)
theorem Zvl : Zc Tryz.prog 116 ZyT :=
 pureQ 144687209545474303 [(107, Zvn), (146, rOnE)] [] ZC0 ZC1 ⟨ZlV, ZdF, trivial⟩ Tryz.func116 Tryz.call116 trivial (t := fun a => ZyS a.1 a.2) (fun a => by kernel_rfl)
abbrev Zsn : List Sh := [Sh.agg Zx, Sh.agg (R.pair R.bool (R.pair R.bool rcF7))]
abbrev Zso : Rs := Rs.one (Sh.agg Zx)
def ZAj (c : TC) (l : QT0) : RT TC :=
 .br (c.1 != 2)
 (.leaf (c))
 (.leaf ((c.1, c.2.1, c.2.2.1, c.2.2.2.1, c.2.2.2.2.1, c.2.2.2.2.2.1, l.2.2.2.2.1 && (c.2.2.2.2.2.2.1 || !c.2.2.2.2.2.2.2.2.1), c.2.2.2.2.2.2.2.1 || l.2.2.2.2.2.1 && !c.2.2.2.2.2.2.2.2.2.1, l.2.2.2.2.1, l.2.2.2.2.2.1, c.2.2.2.2.2.2.2.2.2.2)))
def ZLW (c : TC) (l : QT0) : TC := (ZAj c l).val
def ZTO : Entry := Zf Zsn Zso (fun _ => none) (fun a => ZLW a.1 a.2)
theorem ZLV : Zc Tryz.prog 139 ZTO :=
 pureQ 31 [] [] Zsn Zso trivial Tryz.func139 Tryz.call139 trivial (t := fun a => ZAj a.1 a.2) (fun a => by kernel_rfl)
abbrev ZCT : List Sh := [Sh.agg Zx, Sh.agg (R.pair R.bool (R.pair R.bool rcF7))]
abbrev ZCU : Rs := Rs.one (Sh.agg Zx)
def ZyN (c : TC) (l : QT0) : RT TC :=
 .br (!rOn c.1)
 (.leaf (c))
 (.leaf ((c.1, c.2.1, c.2.2.1, c.2.2.2.1, c.2.2.2.2.1, c.2.2.2.2.2.1, l.2.2.2.2.1 && (c.2.2.2.2.2.2.1 || !c.2.2.2.2.2.2.2.2.1), c.2.2.2.2.2.2.2.1 || l.2.2.2.2.2.1 && !c.2.2.2.2.2.2.2.2.2.1, l.2.2.2.2.1, l.2.2.2.2.2.1, c.2.2.2.2.2.2.2.2.2.2)))
def Zn (c : TC) (l : QT0) : TC := (ZyN c l).val
def ZlQ : Entry := Zf ZCT ZCU (fun _ => none) (fun a => Zn a.1 a.2)
theorem ZlP : Zc Tryz.prog 84 ZlQ :=
 pureQ 31 [(146, rOnE)] [] ZCT ZCU ⟨ZdF, trivial⟩ Tryz.func84 Tryz.call84 trivial (t := fun a => ZyN a.1 a.2) (fun a => by kernel_rfl)
abbrev Zzw : List Sh := [Sh.agg Zx, Sh.agg (R.pair R.bool (R.pair R.bool rcF7))]
abbrev Zzx : Rs := Rs.one (Sh.one (R.int i64))
def ZLy (c : TC) (l : QT0) : RT (Int) :=
 .br (c.1 == 2 && c.2.2.2.2.2.2.1)
 (.leaf (1))
 (.br (!c.2.2.1 || c.2.2.2.1)
  (.leaf (0))
  (.br (c.1 == 2 && (c.2.2.2.2.2.2.2.1 && andI u8 c.2.2.2.2.2.1 4 == 0))
  (.leaf (2))
  (.br (c.1 == 2 && (l.2.2.2.2.2.2.1 && andI u8 c.2.2.2.2.2.1 2 == 0))
   (.leaf (3))
   (.br (c.1 == 2 && (l.2.2.2.2.2.2.2.1 && andI u8 c.2.2.2.2.2.1 1 == 0))
   (.leaf (4))
   (.br l.2.2.2.2.2.2.2.2
    (.leaf (5))
    (.leaf (0)))))))
def ZTF (c : TC) (l : QT0) : Int := (ZLy c l).val
def ZVp : Entry := Zf Zzw Zzx (fun _ => none) (fun a => ZTF a.1 a.2)
theorem ZPM : Zc Tryz.prog 143 ZVp :=
 pureQ 576601524159939135 [] [] Zzw Zzx trivial Tryz.func143 Tryz.call143 trivial (t := fun a => ZLy a.1 a.2) (fun a => by kernel_rfl)
abbrev ZJL : List Sh := [Sh.agg Zx, Sh.agg (R.pair R.bool (R.pair R.bool rcF7))]
abbrev ZJN : Rs := Rs.one (Sh.one (R.int i64))
def ZJM (c : TC) (l : QT0) : RT (Int) :=
 .br (rOn c.1 && c.2.2.2.2.2.2.1)
 (.leaf (1))
 (.br (!c.2.2.1 || c.2.2.2.1)
  (.leaf (0))
  (.br (rOn c.1 && (c.2.2.2.2.2.2.2.1 && andI u8 c.2.2.2.2.2.1 4 == 0))
  (.leaf (2))
  (.br (rOn c.1 && (l.2.2.2.2.2.2.1 && andI u8 c.2.2.2.2.2.1 2 == 0))
   (.leaf (3))
   (.br (rOn c.1 && (l.2.2.2.2.2.2.2.1 && andI u8 c.2.2.2.2.2.1 1 == 0))
   (.leaf (4))
   (.br l.2.2.2.2.2.2.2.2
    (.leaf (5))
    (.leaf (0)))))))
def ZdE (c : TC) (l : QT0) : Int := (ZJM c l).val
def ZJO : Entry := Zf ZJL ZJN (fun _ => none) (fun a => ZdE a.1 a.2)
theorem ZCI : Zc Tryz.prog 87 ZJO :=
 pureQ 576601524159939135 [(146, rOnE)] [] ZJL ZJN ⟨ZdF, trivial⟩ Tryz.func87 Tryz.call87 trivial (t := fun a => ZJM a.1 a.2) (fun a => by kernel_rfl)
abbrev Zm5 : List Sh := [Sh.agg Zx, Sh.one (R.int i64)]
abbrev Zm6 : Rs := Rs.one (Sh.agg Zx)
def Zkm (c : TC) (s : Int) : RT TC :=
 .br (decide (s < 1) || decide (s > 5))
 (.leaf (c))
 (.leaf ((c.1, c.2.1, false, false, false, c.2.2.2.2.2.1, !s == 1 && c.2.2.2.2.2.2.1, bif s == 1 then c.2.2.2.2.2.2.2.1 else !s == 2 && c.2.2.2.2.2.2.2.1, c.2.2.2.2.2.2.2.2.1, c.2.2.2.2.2.2.2.2.2.1, s == 1 || c.2.2.2.2.2.2.2.2.2.2.1, bif s == 1 then c.2.2.1 else c.2.2.2.2.2.2.2.2.2.2.2.1, c.2.2.2.2.2.2.2.2.2.2.2.2)))
def Zta (c : TC) (s : Int) : TC := (Zkm c s).val
def ZQb : Entry := Zf Zm5 Zm6 (fun _ => none) (fun a => Zta a.1 a.2)
theorem ZHa : Zc Tryz.prog 110 ZQb :=
 pureQ 1056799 [] [] Zm5 Zm6 trivial Tryz.func110 Tryz.call110 trivial (t := fun a => Zkm a.1 a.2) (fun a => by kernel_rfl)
abbrev Zvp : List Sh := [Sh.agg Zx, Sh.one (R.int i64)]
abbrev Zvq : Rs := Rs.one (Sh.agg Zx)
def Zkd (c : TC) (s : Int) : RT TC :=
 .br (decide (s < 1) || decide (s > 5))
 (.leaf (c))
 (.leaf ((c.1, c.2.1, false, false, false, c.2.2.2.2.2.1, !s == 1 && c.2.2.2.2.2.2.1, !s == 2 && c.2.2.2.2.2.2.2.1, c.2.2.2.2.2.2.2.2.1, c.2.2.2.2.2.2.2.2.2.1, s == 1 || c.2.2.2.2.2.2.2.2.2.2.1, bif s == 1 then c.2.2.1 else c.2.2.2.2.2.2.2.2.2.2.2.1, c.2.2.2.2.2.2.2.2.2.2.2.2)))
def ZbQ (c : TC) (s : Int) : TC := (Zkd c s).val
def ZDb : Entry := Zf Zvp Zvq (fun _ => none) (fun a => ZbQ a.1 a.2)
theorem ZF5 : Zc Tryz.prog 97 ZDb :=
 pureQ 31 [] [] Zvp Zvq trivial Tryz.func97 Tryz.call97 trivial (t := fun a => Zkd a.1 a.2) (fun a => by kernel_rfl)
abbrev Zr1 : List Sh := [Sh.agg Zx]
abbrev Zr2 : Rs := Rs.one (Sh.agg Zx)
def Zzr (c : TC) : RT TC :=
 .leaf ((c.1, (c.2.1.1, c.2.1.2.1, c.2.1.2.2.1, c.2.1.2.2.2.1, c.2.1.2.2.2.2.1, c.2.1.2.2.2.2.2.1, c.2.1.2.2.2.2.2.2.1, c.2.1.2.2.2.2.2.2.2.1, c.2.1.2.2.2.2.2.2.2.2.1, 0), false, false, false, bif c.1 == 2 then 7 else 0, false, false, false, false, false, false, false))
def ZLp (c : TC) : TC := (Zzr c).val
def ZTC : Entry := Zf Zr1 Zr2 (fun _ => none) (fun a => ZLp a)
theorem ZLo : Zc Tryz.prog 77 ZTC :=
 pureQ 15 [] [] Zr1 Zr2 trivial Tryz.func77 Tryz.call77 trivial (t := fun a => Zzr a) (fun a => by kernel_rfl)
abbrev ZCu : List Sh := [Sh.agg Zx]
abbrev ZCv : Rs := Rs.one (Sh.agg Zx)
def Zfy (c : TC) : RT TC :=
 .leaf ((c.1, (c.2.1.1, c.2.1.2.1, c.2.1.2.2.1, c.2.1.2.2.2.1, c.2.1.2.2.2.2.1, c.2.1.2.2.2.2.2.1, c.2.1.2.2.2.2.2.2.1, c.2.1.2.2.2.2.2.2.2.1, c.2.1.2.2.2.2.2.2.2.2.1, 0), false, false, false, bif rOn c.1 then 7 else 0, false, false, false, false, false, false, false))
def ZM (c : TC) : TC := (Zfy c).val
def ZxS : Entry := Zf ZCu ZCv (fun _ => none) (fun a => ZM a)
theorem Zu4 : Zc Tryz.prog 81 ZxS :=
 pureQ 15 [(146, rOnE)] [] ZCu ZCv ⟨ZdF, trivial⟩ Tryz.func81 Tryz.call81 trivial (t := fun a => Zfy a) (fun a => by kernel_rfl)
abbrev ZCw : List Sh := [Sh.one (R.int i64)]
abbrev ZCx : Rs := Rs.one (Sh.one R.bool)
def ZxT (k : Int) : RT (Bool) :=
 .leaf (k == 1 || (k == 2 || (k == 4 || (k == 6 || (k == 8 || k == 9)))))
def Zb4 (k : Int) : Bool := (ZxT k).val
def Zk5 : Entry := Zf ZCw ZCx (fun _ => none) (fun a => Zb4 a)
theorem ZhD : Zc Tryz.prog 103 Zk5 :=
 pureQ 7 [] [] ZCw ZCx trivial Tryz.func103 Tryz.call103 trivial (t := fun a => ZxT a) (fun a => by kernel_rfl)
abbrev Zr4 : List Sh := [Sh.one (R.int i64)]
abbrev Zr5 : Rs := Rs.one (Sh.one R.bool)
def Zzs (k : Int) : RT (Bool) :=
 .br (bif k == 1 then k == 1 else bif k == 2 then k == 2 else bif k == 4 then k == 4 else bif k == 6 then k == 6 else bif k == 8 then k == 8 else k == 9)
 (.leaf (true))
 (.leaf (false))
def ZLr (k : Int) : Bool := (Zzs k).val
def ZTD : Entry := Zf Zr4 Zr5 (fun _ => none) (fun a => ZLr a)
theorem ZLq : Zc Tryz.prog 114 ZTD :=
 pureQ 23 [] [] Zr4 Zr5 trivial Tryz.func114 Tryz.call114 trivial (t := fun a => Zzs a) (fun a => by kernel_rfl)
abbrev ZuL : List Sh := [Sh.one (R.int i64)]
abbrev ZuM : Rs := Rs.one (Sh.one R.bool)
def Zql (k : Int) : RT (Bool) :=
 .leaf (k == 3 || (k == 5 || k == 7))
def Zcy (k : Int) : Bool := (Zql k).val
def Zqm : Entry := Zf ZuL ZuM (fun _ => none) (fun a => Zcy a)
theorem ZoL : Zc Tryz.prog 100 Zqm :=
 pureQ 7 [] [] ZuL ZuM trivial Tryz.func100 Tryz.call100 trivial (t := fun a => Zql a) (fun a => by kernel_rfl)
abbrev Zl3 : List Sh := [Sh.one (R.int i64)]
abbrev Zl4 : Rs := Rs.one (Sh.one R.bool)
def ZrR (k : Int) : RT (Bool) :=
 .leaf (k == 3 || (k == 5 || k == 7))
def Zzf (k : Int) : Bool := (ZrR k).val
def ZPz : Entry := Zf Zl3 Zl4 (fun _ => none) (fun a => Zzf a)
theorem ZGc : Zc Tryz.prog 129 ZPz :=
 pureQ 7 [] [] Zl3 Zl4 trivial Tryz.func129 Tryz.call129 trivial (t := fun a => ZrR a) (fun a => by kernel_rfl)
abbrev Zl8 : List Sh := [Sh.one (R.int i64)]
abbrev Zl9 : Rs := Rs.one (Sh.one (R.int u8))
def ZrV (k : Int) : RT (Int) :=
 .br (k == 1)
 (.leaf (162))
 (.br (k == 2)
  (.leaf (130))
  (.br (k == 4)
  (.leaf (134))
  (.br (k == 5)
   (.leaf (4))
   (.br (k == 6)
   (.leaf (66))
   (.br (k == 7)
    (.leaf (16))
    (.br (k == 8)
    (.leaf (35))
    (.br (k == 9)
     (.leaf (3))
     (.br (k == 10)
     (.leaf (138))
     (.leaf (0))))))))))
def Zzl (k : Int) : Int := (ZrV k).val
def ZPC : Entry := Zf Zl8 Zl9 (fun _ => none) (fun a => Zzl a)
theorem ZGf : Zc Tryz.prog 203 ZPC :=
 pureQ 1398103 [] [] Zl8 Zl9 trivial Tryz.func203 Tryz.call203 trivial (t := fun a => ZrV a) (fun a => by kernel_rfl)
abbrev ZuV : List Sh := [Sh.one (R.int i64)]
abbrev ZuW : Rs := Rs.one (Sh.one (R.int u8))
def Zqv (k : Int) : RT (Int) :=
 .br (k == 1)
 (.leaf (162))
 (.br (k == 2)
  (.leaf (130))
  (.br (k == 4)
  (.leaf (134))
  (.br (k == 5)
   (.leaf (4))
   (.br (k == 6)
   (.leaf (66))
   (.br (k == 7)
    (.leaf (16))
    (.br (k == 8)
    (.leaf (35))
    (.br (k == 9)
     (.leaf (3))
     (.br (k == 10)
     (.leaf (138))
     (.leaf (0))))))))))
def ZiB (k : Int) : Int := (Zqv k).val
def ZCm : Entry := Zf ZuV ZuW (fun _ => none) (fun a => ZiB a)
theorem ZE4 : Zc Tryz.prog 148 ZCm :=
 pureQ 1398103 [] [] ZuV ZuW trivial Tryz.func148 Tryz.call148 trivial (t := fun a => Zqv a) (fun a => by kernel_rfl)
abbrev ZmX : List Sh := [Sh.one (R.int i64)]
abbrev ZmY : Rs := Rs.tup [Sh.one R.bool, Sh.one R.bool, Sh.one R.bool]
def Zsm (k : Int) : RT (QT28) :=
 .br (k == 1)
 (.leaf ((false, true, true)))
 (.br (bif k == 2 then k == 2 else bif k == 4 then k == 4 else k == 11)
  (.leaf ((false, true, false)))
  (.br (bif k == 3 then k == 3 else k == 5)
  (.leaf ((false, false, true)))
  (.br (k == 6)
   (.leaf ((true, true, false)))
   (.br (k == 7)
   (.leaf ((true, false, true)))
   (.br (bif k == 8 then k == 8 else bif k == 9 then k == 9 else k == 12)
    (.leaf ((true, true, true)))
    (.leaf ((false, false, false))))))))
def ZAi (k : Int) : QT28 := (Zsm k).val
def ZPV : Entry := Zf ZmX ZmY (fun _ => none) (fun a => ZAi a)
theorem ZGt : Zc Tryz.prog 202 ZPV :=
 pureQ 692575 [] [] ZmX ZmY trivial Tryz.func202 Tryz.call202 trivial (t := fun a => Zsm a) (fun a => by kernel_rfl)
abbrev Zvj : List Sh := [Sh.one (R.int i64)]
abbrev Zvk : Rs := Rs.tup [Sh.one R.bool, Sh.one R.bool, Sh.one R.bool]
def ZqW (k : Int) : RT (QT28) :=
 .br (k == 1)
 (.leaf ((false, true, true)))
 (.br (bif k == 2 then k == 2 else bif k == 4 then k == 4 else k == 11)
  (.leaf ((false, true, false)))
  (.br (bif k == 3 then k == 3 else k == 5)
  (.leaf ((false, false, true)))
  (.br (k == 6)
   (.leaf ((true, true, false)))
   (.br (k == 7)
   (.leaf ((true, false, true)))
   (.br (bif k == 8 then k == 8 else bif k == 9 then k == 9 else k == 12)
    (.leaf ((true, true, true)))
    (.leaf ((false, false, false))))))))
def Zef (k : Int) : QT28 := (ZqW k).val
def ZCS : Entry := Zf Zvj Zvk (fun _ => none) (fun a => Zef a)
theorem ZFp : Zc Tryz.prog 147 ZCS :=
 pureQ 692575 [] [] Zvj Zvk trivial Tryz.func147 Tryz.call147 trivial (t := fun a => ZqW a) (fun a => by kernel_rfl)
abbrev ZiN : List Sh := [Sh.one (R.int i64)]
abbrev ZiO : Rs := Rs.one (Sh.one R.bool)
def Zm4 (k : Int) : RT (Bool) :=
 .leaf (k != 10 && (k != 11 && k != 12))
def Zs9 (k : Int) : Bool := (Zm4 k).val
def ZMI : Entry := Zf ZiN ZiO (fun _ => none) (fun a => Zs9 a)
theorem ZAE : Zc Tryz.prog 140 ZMI :=
 pureQ 7 [] [] ZiN ZiO trivial Tryz.func140 Tryz.call140 trivial (t := fun a => Zm4 a) (fun a => by kernel_rfl)
abbrev Zo8 : List Sh := [Sh.one (R.int i64)]
abbrev Zo9 : Rs := Rs.one (Sh.one R.bool)
def ZlX (k : Int) : RT (Bool) :=
 .leaf (k != 10 && (k != 11 && k != 12))
def Zbr (k : Int) : Bool := (ZlX k).val
def Zvo : Entry := Zf Zo8 Zo9 (fun _ => none) (fun a => Zbr a)
theorem Zy6 : Zc Tryz.prog 85 Zvo :=
 pureQ 7 [] [] Zo8 Zo9 trivial Tryz.func85 Tryz.call85 trivial (t := fun a => ZlX a) (fun a => by kernel_rfl)
theorem ZQl (c l) : ZLW c l = Zn c l := by
 simp only [ZLW, ZAj, Zn, ZyN, RT.val, Zaw, bne]
theorem ZTq (c l) : ZTF c l = ZdE c l := by simp [ZTF, ZLy, ZdE, ZJM, RT.val, Zaw]
theorem ZOd (c) (s : Int) : Zta c s = ZbQ c s := by
 by_cases h : s = 1
 ·subst h; simp [Zta, Zkm, ZbQ, Zkd, RT.val]
 ·have h' : (s == 1) = false := by simpa using h
  simp [Zta, Zkm, ZbQ, Zkd, RT.val, h']
theorem ZOR (c) : ZLp c = ZM c := by simp [ZLp, Zzr, ZM, Zfy, RT.val, Zaw]
theorem ZOS (k) : ZLr k = Zb4 k := by simp [ZLr, Zzs, Zb4, ZxT, RT.val]
theorem ZHN (k) : Zzf k = Zcy k := by simp [Zzf, ZrR, Zcy, Zql, RT.val]
theorem ZI0 (k) : Zzl k = ZiB k := by simp [Zzl, ZrV, ZiB, Zqv, RT.val]
theorem ZNm (k) : ZAi k = Zef k := by simp [ZAi, Zsm, Zef, ZqW, RT.val]
theorem ZHJ (k) : Zs9 k = Zbr k := by simp [Zs9, Zm4, Zbr, ZlX, RT.val]
def ZDF : Entry := Zf Zsn Zso (fun _ => none) (fun a => Zn a.1 a.2)
theorem ZGu : Zc Tryz.prog 139 ZDF := ZLV.tot (fun a h => by simp) (fun a h => ZQl _ _)
def Zr6 : Entry := Zf Zzw Zzx (fun _ => none) (fun a => ZdE a.1 a.2)
theorem ZvO : Zc Tryz.prog 143 Zr6 := ZPM.tot (fun a h => by simp) (fun a h => ZTq _ _)
def Zv1 : Entry := Zf Zm5 Zm6 (fun _ => none) (fun a => ZbQ a.1 a.2)
theorem ZAF : Zc Tryz.prog 110 Zv1 := ZHa.tot (fun a h => by simp) (fun a h => ZOd _ _)
def Zr3 : Entry := Zf Zr1 Zr2 (fun _ => none) (fun a => ZM a)
theorem Zpl : Zc Tryz.prog 77 Zr3 := ZLo.tot (fun a h => by simp) (fun a h => ZOR _)
def ZeV : Entry := Zf Zr4 Zr5 (fun _ => none) (fun a => Zb4 a)
theorem Zgm : Zc Tryz.prog 114 ZeV := ZLq.tot (fun a h => by simp) (fun a h => ZOS _)
def Zex : Entry := Zf Zl3 Zl4 (fun _ => none) (fun a => Zcy a)
theorem Zg3 : Zc Tryz.prog 129 Zex := ZGc.tot (fun a h => by simp) (fun a h => ZHN _)
def Zma : Entry := Zf Zl8 Zl9 (fun _ => none) (fun a => ZiB a)
theorem Zzk : Zc Tryz.prog 203 Zma := ZGf.tot (fun a h => by simp) (fun a h => ZI0 _)
def ZmZ : Entry := Zf ZmX ZmY (fun _ => none) (fun a => Zef a)
theorem ZAh : Zc Tryz.prog 202 ZmZ := ZGt.tot (fun a h => by simp) (fun a h => ZNm _)
def Zpq : Entry := Zf ZiN ZiO (fun _ => none) (fun a => Zbr a)
theorem Zv0 : Zc Tryz.prog 140 Zpq := ZAE.tot (fun a h => by simp) (fun a h => ZHJ _)
def ZbO : Entry := .tree (ZP (envX Tryz.prog [] [] 7 8) Tryz.f127)
theorem ZdQ : Zc Tryz.prog 127 ZbO := Zab (P := Tryz.prog) (n := 7) (k := 8) (l := []) (ol := []) trivial Tryz.func127 rfl (by kernel_rfl) Tryz.call127 trivial
def Zbb : Entry := .tree (ZP (envX Tryz.prog [] [] 7 8) Tryz.f128)
theorem ZcO : Zc Tryz.prog 128 Zbb := Zab (P := Tryz.prog) (n := 7) (k := 8) (l := []) (ol := []) trivial Tryz.func128 rfl (by kernel_rfl) Tryz.call128 trivial
def Zf4 : Entry := .tree (ZP (envX Tryz.prog [(114, ZeV), (127, ZbO), (128, Zbb), (129, Zex), (202, ZmZ)] [] 63 8) Tryz.f130)
theorem Zjg : Zc Tryz.prog 130 Zf4 := Zab (P := Tryz.prog) (n := 63) (k := 8) (l := [(114, ZeV), (127, ZbO), (128, Zbb), (129, Zex), (202, ZmZ)]) (ol := []) ⟨Zgm, ZdQ, ZcO, Zg3, ZAh, trivial⟩ Tryz.func130 rfl (by kernel_rfl) Tryz.call130 trivial
def ZeK : Entry := .tree (ZP (envX Tryz.prog [(114, ZeV), (128, Zbb), (129, Zex), (203, Zma)] [] 63 8) Tryz.f131)
theorem Zhd : Zc Tryz.prog 131 ZeK := Zab (P := Tryz.prog) (n := 63) (k := 8) (l := [(114, ZeV), (128, Zbb), (129, Zex), (203, Zma)]) (ol := []) ⟨Zgm, ZcO, Zg3, Zzk, trivial⟩ Tryz.func131 rfl (by kernel_rfl) Tryz.call131 trivial
abbrev ZLu : List Sh := [Sh.one (R.int i64), Sh.agg (R.pair (R.int i64) (R.pair (RY) (R.pair (R.int u8) (R.pair (R.int u16) (R.pair R.bool R.bool)))))]
abbrev ZLw : Rs := Rs.one (Sh.agg (R.pair (R.int i64) (R.pair (R.int u16) (R.pair (R.int u8) (R.pair R.bool (R.pair R.bool (R.pair R.bool (R.pair R.bool (R.pair R.bool (R.pair R.bool (R.pair R.bool rcF7)))))))))))
def ZLv (chip : Int) (s : Int × TY × Int × Int × Bool × Bool) : RT (QT8) :=
 let x1 : Int := bif decide (s.1 ≥ 1) && decide (s.1 ≤ 7) then s.2.1.2.1 else 0
 let x2 := s.1 == 2 || (s.1 == 7 || s.1 == 3)
 let x3 := x2 && Zcy s.2.1.1
 let x4 : Int := bif s.1 == 3 && Zb4 s.2.1.1 then s.2.2.1 else bif x3 then s.2.1.2.2.1 else 0
 let x5 := s.1 == 1 && (s.2.1.1 != 11 && s.2.1.1 != 12)
 .br (chip == 2)
 (.leaf ((s.1, x1, bif s.1 == 1 then u8.wrap s.2.1.2.1 else x4, false, false, false, false, s.1 == 1, decide (s.1 ≥ 1) && decide (s.1 ≤ 7) && (Zef s.2.1.1).1, decide (s.1 ≥ 1) && decide (s.1 ≤ 7) && (Zef s.2.1.1).2.1, decide (s.1 ≥ 1) && decide (s.1 ≤ 7) && (Zef s.2.1.1).2.2, x2 && (Zb4 s.2.1.1 && !(s.2.1.1 == 8 || s.2.1.1 == 9)), x2 && (s.2.1.1 == 8 || s.2.1.1 == 9), s.2.2.2.2.2, x3, s.1 == 8, s.1 == 8 || (s.1 == 9 || s.1 == 10))))
 (.leaf ((s.1, bif s.1 == 9 then s.2.2.2.1 else x1, bif x5 then ZiB s.2.1.1 else x4, x5, x2 && Zb4 s.2.1.1, s.1 == 7 || s.1 == 9, s.2.2.2.2.1, false, false, false, false, false, false, false, bif s.1 == 7 then Zcy s.2.1.1 else s.1 == 3 && Zcy s.2.1.1, s.1 == 8, s.1 == 8)))
def ZLx (chip : Int) (s : Int × TY × Int × Int × Bool × Bool) : QT8 := (ZLv chip s).val
def ZRS : Entry := Zf ZLu ZLw (fun _ => none) (fun a => ZLx a.1 a.2)
theorem ZPL : Zc Tryz.prog 66 ZRS :=
 pureQ 63 [(114, ZeV), (127, ZbO), (128, Zbb), (129, Zex), (130, Zf4), (131, ZeK)] [] ZLu ZLw ⟨Zgm, ZdQ, ZcO, Zg3, Zjg, Zhd, trivial⟩ Tryz.func66 Tryz.call66 trivial (t := fun a => ZLv a.1 a.2) (fun a => by kernel_rfl)
abbrev ZJJ : List Sh := [Sh.one (R.int i64), Sh.one (R.int i64), Sh.agg (RY), Sh.one (R.int u8), Sh.one R.bool, Sh.one R.bool]
abbrev ZJK : Rs := Rs.one (Sh.agg (R.pair (R.int i64) (R.pair (R.int u16) (R.pair (R.int u8) (R.pair R.bool (R.pair R.bool (R.pair R.bool (R.pair R.bool (R.pair R.bool (R.pair R.bool (R.pair R.bool rcF7)))))))))))
def Zu9 (chip : Int) (t : Int) (x : QT11) (d : Int) (i : Bool) (o : Bool) : RT (QT8) :=
 let x1 : QT20 := (!rOn chip && bif rOn chip then i else i, false, false, false, false, false, false, bif !rOn chip then rOn chip && o else rOn chip && o, false, false, rOn chip)
 let x2 := (t == 2 || (t == 7 || t == 3)) && Zcy x.1
 let x3 : Int := bif t == 3 && Zb4 x.1 then d else bif x2 then x.2.2.1 else 0
 .br (t == 8)
 (.leaf ((t, 0, 0, false, false, false, !rOn chip && bif rOn chip then i else i, false, false, false, false, false, false, bif !rOn chip then rOn chip && o else rOn chip && o, false, true, true)))
 (.br (t == 9)
  (.leaf ((t, bif !rOn chip then x.2.1 else 0, 0, false, false, !rOn chip, x1)))
  (.br (t == 10)
  (.leaf ((t, 0, 0, false, false, false, x1)))
  (.br (rOn chip)
   (.leaf ((t, x.2.1, bif t == 1 then u8.wrap x.2.1 else x3, false, false, false, !rOn chip && bif rOn chip then i else i, t == 1, (Zef x.1).1, (Zef x.1).2.1, (Zef x.1).2.2, (t == 2 || (t == 7 || t == 3)) && (Zb4 x.1 && !(x.1 == 8 || x.1 == 9)), (t == 2 || (t == 7 || t == 3)) && (x.1 == 8 || x.1 == 9), bif !rOn chip then rOn chip && o else rOn chip && o, x2, false, false)))
   (.leaf ((t, x.2.1, bif t == 1 && (x.1 != 11 && x.1 != 12) then ZiB x.1 else x3, t == 1 && (x.1 != 11 && x.1 != 12), (t == 2 || (t == 7 || t == 3)) && Zb4 x.1, t == 7, !rOn chip && bif rOn chip then i else i, false, false, false, false, false, false, bif !rOn chip then rOn chip && o else rOn chip && o, Zcy x.1 && (t == 7 || t == 3), false, false))))))
def ZhG (chip : Int) (t : Int) (x : QT11) (d : Int) (i : Bool) (o : Bool) : QT8 := (Zu9 chip t x d i o).val
def ZRf : Entry := Zf ZJJ ZJK (fun _ => none) (fun a => ZhG a.1 a.2.1 a.2.2.1 a.2.2.2.1 a.2.2.2.2.1 a.2.2.2.2.2)
theorem ZO8 : Zc Tryz.prog 83 ZRf :=
 pureQ 302250189878107155464191 [(100, Zqm), (103, Zk5), (146, rOnE), (147, ZCS), (148, ZCm)] [] ZJJ ZJK ⟨ZoL, ZhD, ZdF, ZFp, ZE4, trivial⟩ Tryz.func83 Tryz.call83 trivial (t := fun a => Zu9 a.1 a.2.1 a.2.2.1 a.2.2.2.1 a.2.2.2.2.1 a.2.2.2.2.2) (fun a => by kernel_rfl)
abbrev ZMA : List Sh := [Sh.agg (R.pair Zx (R.pair (R.int i64) (R.pair (R.sl (R.int u8)) (R.pair (RY) (R.pair (R.int i64) R.bool)))))]
abbrev ZMB : Rs := Rs.one (Sh.one R.bool)
def ZR5 (c : QT2) : RT (Bool) :=
 let x1 := decide (iN (List.length c.2.2.1) > 0) || c.2.1 != 0
 .leaf (bif decide (c.2.2.2.2.1 ≥ 2) then decide (c.2.2.2.2.1 ≤ 7) || x1 else x1)
def ZMC (c : QT2) : Bool := (ZR5 c).val
def ZhZ : Entry := Zf ZMA ZMB (fun _ => none) (fun a => ZMC a)
theorem ZhY : Zc Tryz.prog 29 ZhZ :=
 pureQ 7 [] [] ZMA ZMB trivial Tryz.func29 Tryz.call29 trivial (t := fun a => ZR5 a) (fun a => by kernel_rfl)
abbrev ZKF : List Sh := [Sh.agg (R.pair Zx (R.pair (R.int i64) (R.pair (R.sl (R.int u8)) (R.pair (RY) (R.pair (R.int i64) R.bool)))))]
abbrev ZKG : Rs := Rs.one (Sh.one R.bool)
def ZRG (c : QT2) : RT (Bool) :=
 let x1 := decide (iN (List.length c.2.2.1) > 0) || c.2.1 != 0
 .leaf (bif decide (c.2.2.2.2.1 ≥ 2) then decide (c.2.2.2.2.1 ≤ 7) || x1 else x1)
def ZgD (c : QT2) : Bool := (ZRG c).val
def ZfE : Entry := Zf ZKF ZKG (fun _ => none) (fun a => ZgD a)
theorem Zgl : Zc Tryz.prog 30 ZfE :=
 pureQ 7 [] [] ZKF ZKG trivial Tryz.func30 Tryz.call30 trivial (t := fun a => ZRG a) (fun a => by kernel_rfl)
def Zca : Entry := .tree (ZP (envX Tryz.prog [] [] 31 8) Tryz.f41)
theorem ZdW : Zc Tryz.prog 41 Zca := Zab (P := Tryz.prog) (n := 31) (k := 8) (l := []) (ol := []) trivial Tryz.func41 rfl (by kernel_rfl) Tryz.call41 trivial
abbrev ZJr : List Sh := [Sh.agg (R.pair Zx (R.pair (R.int i64) (R.pair (R.sl (R.int u8)) (R.pair (RY) (R.pair (R.int i64) R.bool))))), Sh.agg (R.pair Zx (R.pair (R.int i64) (R.pair (R.sl (R.int u8)) (R.pair (RY) (R.pair (R.int i64) R.bool)))))]
abbrev ZJt : Rs := Rs.one (Sh.one R.bool)
def ZJs (a : QT2) (b : QT2) : RT (Bool) :=
 let x1 := a.1.2.1.2.2.2.2.2.2.2.1.2.2
 let x2 := b.1.2.1.2.2.2.2.2.2.2.1.2.2
 let x3 := x1.2
 let x4 := x2.2
 let x5 := x3.2
 let x6 := x4.2
 let x7 := x5.2
 let x8 := x6.2
 .leaf (a.1.1 == b.1.1 && (a.1.2.1.1 == b.1.2.1.1 && (a.1.2.1.2.1 == b.1.2.1.2.1 && (a.1.2.1.2.2.1 == b.1.2.1.2.2.1 && (a.1.2.1.2.2.2.1 == b.1.2.1.2.2.2.1 && (a.1.2.1.2.2.2.2.1 == b.1.2.1.2.2.2.2.1 && (a.1.2.1.2.2.2.2.2.1 == b.1.2.1.2.2.2.2.2.1 && (a.1.2.1.2.2.2.2.2.2.1 == b.1.2.1.2.2.2.2.2.2.1 && (a.1.2.1.2.2.2.2.2.2.2.1.1 == b.1.2.1.2.2.2.2.2.2.2.1.1 && (a.1.2.1.2.2.2.2.2.2.2.1.2.1 == b.1.2.1.2.2.2.2.2.2.2.1.2.1 && (x1.1 == x2.1 && (x3.1 == x4.1 && (x5.1 == x6.1 && (x7.1 == x8.1 && (x7.2 == x8.2 && (a.1.2.1.2.2.2.2.2.2.2.2.1 == b.1.2.1.2.2.2.2.2.2.2.2.1 && (a.1.2.1.2.2.2.2.2.2.2.2.2 == b.1.2.1.2.2.2.2.2.2.2.2.2 && (a.1.2.2.1 == b.1.2.2.1 && (a.1.2.2.2.1 == b.1.2.2.2.1 && (a.1.2.2.2.2.1 == b.1.2.2.2.2.1 && (a.1.2.2.2.2.2.1 == b.1.2.2.2.2.2.1 && (a.1.2.2.2.2.2.2.1 == b.1.2.2.2.2.2.2.1 && (a.1.2.2.2.2.2.2.2.1 == b.1.2.2.2.2.2.2.2.1 && (a.1.2.2.2.2.2.2.2.2.1 == b.1.2.2.2.2.2.2.2.2.1 && (a.1.2.2.2.2.2.2.2.2.2.1 == b.1.2.2.2.2.2.2.2.2.2.1 && (a.1.2.2.2.2.2.2.2.2.2.2.1 == b.1.2.2.2.2.2.2.2.2.2.2.1 && (a.1.2.2.2.2.2.2.2.2.2.2.2.1 == b.1.2.2.2.2.2.2.2.2.2.2.2.1 && (a.1.2.2.2.2.2.2.2.2.2.2.2.2 == b.1.2.2.2.2.2.2.2.2.2.2.2.2 && true))))))))))))))))))))))))))) && (a.2.1 == b.2.1 && (ByteArray.toList (ZOF a.2.2.1) == ByteArray.toList (ZOF b.2.2.1) && (a.2.2.2.1.1 == b.2.2.2.1.1 && (a.2.2.2.1.2.1 == b.2.2.2.1.2.1 && (a.2.2.2.1.2.2.1 == b.2.2.2.1.2.2.1 && (a.2.2.2.1.2.2.2 == b.2.2.2.1.2.2.2 && true))) && (a.2.2.2.2.1 == b.2.2.2.2.1 && a.2.2.2.2.2 == b.2.2.2.2.2)))))
def ZJu (a : QT2) (b : QT2) : Bool := (ZJs a b).val
def ZhA : Entry := Zf ZJr ZJt (fun _ => none) (fun a => ZJu a.1 a.2)
theorem Zhz : Zc Tryz.prog 28 ZhA :=
 pureQ 31 [(41, Zca)] [] ZJr ZJt ⟨ZdW, trivial⟩ Tryz.func28 Tryz.call28 trivial (t := fun a => ZJs a.1 a.2) (fun a => by kernel_rfl)
theorem ZK0 (chip t : Int) (h1 : 1 ≤ t) (h2 : t ≤ 10) (x : QT11) (d d' pc : Int) (i o : Bool) (hd : t ≠ 10 → d' = d) :
  ZLx chip (t, x, d, pc, i, o) = ZhG chip t (bif t == 9 then (0, pc, 0, 0) else x) d' i o := by
 obtain ⟨x1, x2, x3, x4⟩ := x
 simp only [ZLx, ZLv, ZhG, Zu9, RT.val, Zaw]
 generalize (chip == 2) = b
 have : t = 1 ∨ t = 2 ∨ t = 3 ∨ t = 4 ∨ t = 5 ∨ t = 6 ∨ t = 7 ∨ t = 8 ∨ t = 9 ∨ t = 10 := by omega
 by_cases h : t = 10
 ·subst h; cases b <;> simp
 ·rw [hd h]
  rcases this with rfl | rfl | rfl | rfl | rfl | rfl | rfl | rfl | rfl | rfl <;> cases b <;> simp <;> (try cases Zcy x1) <;> (try cases Zb4 x1) <;> simp
end
end Go.Proofs.YtghoimllhpjkjaaGreat
