/-
  The leaves of the program do what the leaves of the reference do. Conditions: none.
-/
import Derived.Test.YteboknglfjadoaaGreatLeafs
open Go Go.S3 Go.Proofs
set_option linter.unusedVariables false
set_option linter.unusedSimpArgs false
set_option maxRecDepth 100000
namespace Go.Proofs.YteboknglfjadoaaGreat
noncomputable section

theorem parity_eq (b : Int) (h : inR .u8 b) : pParityC b = true ∧ pParity b = rParity b := by
  have h1 := byte_all (fun b => pParityC b && (pParity b == rParity b)) (by kernel_rfl) b h
  simpa using h1
theorem maj_eq (a b c : Bool) : pMaj a b c = rMaj a b c := by cases a <;> cases b <;> cases c <;> rfl
theorem one_eq (a : Bool) : pOne a = rOne a := by cases a <;> rfl
theorem sum_eq (a b : Int) (c : Bool) : pSum a b c = rSum a b c := by
  simp only [pSum, pSumT, rSum, rSumT, RT.val, Bool.cond_self, pSigned, pSignedT, rSigned, rSignedT, one_eq]
theorem diff_eq (a b : Int) (c : Bool) : pDiff a b c = rDiff a b c := by
  have h1 := and15 a
  have h2 := and15 b
  have e : IntKind.wrap .i64 (IntKind.wrap .i64 (IntKind.wrap .i64 (IntKind.wrap .i64 (andI .u8 a 15) + 15) - IntKind.wrap .i64 (andI .u8 b 15)) + 1) = IntKind.wrap .i64 (IntKind.wrap .i64 (IntKind.wrap .i64 (andI .u8 a 15) + IntKind.wrap .i64 (IntKind.wrap .u8 (15 - andI .u8 b 15))) + 1) := by
    rw [wrap_u8]
    rw [wrap_i64 (andI .u8 a 15) (by omega) (by omega), wrap_i64 (andI .u8 b 15) (by omega) (by omega), wrap_i64 ((15 - andI .u8 b 15) % 256) (by omega) (by omega), wrap_i64 (andI .u8 a 15 + 15) (by omega) (by omega)]
    congr 1; rw [wrap_i64 _ (by omega) (by omega), wrap_i64 _ (by omega) (by omega)]; omega
  simp only [pDiff, pDiffT, rDiff, rDiffT, RT.val, Bool.cond_self, pSigned, pSignedT, rSigned, rSignedT, one_eq, e]
theorem join_eq (a b : Int) : pJoin a b = rJoin a b := rfl
theorem bit_ok (b : Bool) (n : Int) (h : 0 ≤ n) : pBitC b n = true ∧ pBit b n = bif b then shlI .u8 1 n else 0 := by
  cases b <;> simp [pBitC, pBit, pBitT, RT.val, h, okB, getO]
theorem rbit_ok (b : Bool) (n : Int) (h : 0 ≤ n) : rBitC b n = true ∧ rBit b n = bif b then shlI .u8 1 n else 0 := by
  cases b <;> simp [rBitC, rBit, rBitT, RT.val, h, okB, getO]
theorem bit_eq (b : Bool) (n : Int) (h : 0 ≤ n) : pBit b n = rBit b n := by rw [(bit_ok b n h).2, (rbit_ok b n h).2]
theorem on_eq (chip : Int) : rOn chip = (chip == 2) := rfl
theorem pack_C (chip : Int) (f) : pPackC chip f = true := by
  cases h : chip == 2 <;> simp [pPackC, pPackT, RT.val, bit_ok, okB, h]
theorem rpack_C (chip : Int) (f) : rPackC chip f = true := by
  cases h : chip == 2 <;> simp [rPackC, rPackT, RT.val, rbit_ok, on_eq, okB, h]
theorem pack_eq (chip : Int) (f) : pPack chip f = rPack chip f := by
  simp only [pPack, pPackT, rPack, rPackT, RT.val, bit_ok, rbit_ok, on_eq]; cases chip == 2 <;> simp [bit_ok, rbit_ok, getO]
theorem of_C (r : Int) (h : inR .u8 r) : pOfC r = true := by simp [pOfC, pOfT, RT.val, parity_eq r h, okB]
theorem of_eq (r : Int) (h : inR .u8 r) : pOf r = rOf r := by simp [pOf, pOfT, rOf, rOfT, RT.val, parity_eq r h, getO]
theorem get_C (r) (n : Int) : rGetC r n = true := by
  have := and7 n
  have h : decide (0 ≤ andI .i64 n 7 ∧ andI .i64 n 7 < 8) = true := by simp; omega
  simp only [rGetC, rGetT, RT.val, h, cond_true, okB]
theorem eight {m : Int} (h : 0 ≤ m ∧ m ≤ 7) : m = 0 ∨ m = 1 ∨ m = 2 ∨ m = 3 ∨ m = 4 ∨ m = 5 ∨ m = 6 ∨ m = 7 := by omega
theorem pget_ok (r) (n : Int) : pGet r n = rGet r n := by
  have h7 := and7 n
  have h : decide (0 ≤ andI .i64 n 7 ∧ andI .i64 n 7 < 8) = true := by simp; omega
  simp only [pGet, pGetT, rGet, rGetT, RT.val, h, cond_true, getO]
  generalize andI .i64 n 7 = m at *
  rcases eight h7 with rfl | rfl | rfl | rfl | rfl | rfl | rfl | rfl <;> rfl
theorem pset_ok (r) (n v : Int) : pSet r n v = rSet r n v := by
  have h7 := and7 n
  simp only [pSet, pSetT, rSet, rSetT, RT.val, cond_true, getO]
  generalize andI .i64 n 7 = m at *
  rcases eight h7 with rfl | rfl | rfl | rfl | rfl | rfl | rfl | rfl <;> rfl
theorem ppair_ok (r) (n : Int) : pPair r n = rPair r n := by
  simp only [pPair, pPairT, rPair, rPairT, RT.val, pget_ok, get_C, join_eq]
  cases andI .i64 n 3 == 3 <;> simp [okB, getO]
theorem rpair_C (r) (n : Int) : rPairC r n = true := by
  simp only [rPairC, rPairT, RT.val, get_C]
  cases andI .i64 n 3 == 3 <;> simp [okB]
theorem psetpair_ok (r) (n v : Int) : pSetPair r n v = rSetPair r n v := by
  simp only [pSetPair, pSetPairT, rSetPair, rSetPairT, RT.val, pset_ok]
theorem ppsw_ok (chip : Int) (r) : pPSWC chip r = true ∧ pPSW chip r = rPSW chip r := by
  simp [pPSWC, pPSW, pPSWT, rPSW, rPSWT, RT.val, pack_C, rpack_C, pack_eq, join_eq, okB, getO]
theorem rpsw_C (chip : Int) (r) : rPSWC chip r = true := by simp [rPSWC, rPSWT, RT.val, rpack_C, okB]
theorem unpack_eq (chip : Int) (b : Int) : pUnpack chip b = rUnpack chip b := by
  simp only [pUnpack, pUnpackT, rUnpack, rUnpackT, RT.val, on_eq]
theorem psetpsw_ok (chip : Int) (r) (v : Int) : pSetPSW chip r v = rSetPSW chip r v := by
  simp only [pSetPSW, pSetPSWT, rSetPSW, rSetPSWT, RT.val, unpack_eq]
theorem holds_eq (c : Int) (f) : pHolds c f = rHolds c f := by
  simp only [pHolds, pHoldsT, rHolds, rHoldsT, RT.val]
  by_cases h : 0 ≤ c ∧ c ≤ 11
  · have : c = 0 ∨ c = 1 ∨ c = 2 ∨ c = 3 ∨ c = 4 ∨ c = 5 ∨ c = 6 ∨ c = 7 ∨ c = 8 ∨ c = 9 ∨ c = 10 ∨ c = 11 := by omega
    rcases this with rfl | rfl | rfl | rfl | rfl | rfl | rfl | rfl | rfl | rfl | rfl | rfl <;> simp
  · have e : ∀ k : Int, 0 ≤ k → k ≤ 11 → (c == k) = false := fun k h1 h2 => by simp; omega
    simp [e]
theorem inR_pair {b : Int} (h : inR .u8 b) : inR .u8 b := h
theorem sum_in (a b : Int) (c : Bool) : inR .u8 (rSum a b c).1 := by
  simp only [rSum, rSumT, RT.val, Bool.cond_self]; exact inR_wrap _ _
theorem diff_in (a b : Int) (c : Bool) : inR .u8 (rDiff a b c).1 := by
  simp only [rDiff, rDiffT, RT.val, Bool.cond_self]; exact inR_wrap _ _
theorem bits_in (a b : Int) : inR .u8 (andI .u8 a b) ∧ inR .u8 (orI .u8 a b) ∧ inR .u8 (xorI .u8 a b) := inR_bits _ _ _
theorem result_ok (chip v r : Int) (half over x : Bool) (f) (h : inR .u8 r) : pResultC chip v r half over x f = true ∧
    pResult chip v r half over x f = rOnly chip ((rOf r).1, (rOf r).2.1, (rOf r).2.2.1, half, (rOf r).2.2.2.2.1, (rOf r).2.2.2.2.2.1, f.2.2.2.2.2.2) (rMaj (decide (v ≥ 128)) x (decide (r ≥ 128))) over := by
  cases hc : chip == 2 <;> simp [pResultC, pResult, pResultT, rOnly, rOnlyT, RT.val, of_C r h, of_eq r h, okB, getO, on_eq, hc, maj_eq, rOf, rOfT]
theorem pinr_ok (chip v : Int) (f) : pInrC chip v f = true ∧ pInr chip v f = rInr chip v f := by
  have h := result_ok chip v (rSum v 1 false).1 (rSum v 1 false).2.2.1 (rSum v 1 false).2.2.2 false f (sum_in _ _ _)
  simp only [pInrC, pInr, pInrT, rInr, rInrT, RT.val, sum_eq, h.1, h.2, cond_true, okB, getO, and_self]
theorem pdcr_ok (chip v : Int) (f) : pDcrC chip v f = true ∧ pDcr chip v f = rDcr chip v f := by
  have h := result_ok chip v (rDiff v 1 false).1 (rDiff v 1 false).2.2.1 (rDiff v 1 false).2.2.2 true f (diff_in _ _ _)
  simp only [pDcrC, pDcr, pDcrT, rDcr, rDcrT, RT.val, diff_eq, h.1, h.2, cond_true, okB, getO, and_self]
theorem pinx_ok (chip v : Int) (f) : pInx chip v f = rInx chip v f := by
  simp only [pInx, pInxT, rInx, rInxT, RT.val, on_eq]
theorem pdcx_ok (chip v : Int) (f) : pDcx chip v f = rDcx chip v f := by
  simp only [pDcx, pDcxT, rDcx, rDcxT, RT.val, on_eq]
theorem pdaa_ok (chip a : Int) (f) : pDaaC chip a f = true ∧ pDaa chip a f = rDaa chip a f := by
  have h := fun x => of_C _ (sum_in a x false)
  have h2 := fun x => of_eq _ (sum_in a x false)
  cases hc : chip == 2 <;> simp [pDaaC, pDaa, pDaaT, rDaa, rDaaT, rOnly, rOnlyT, RT.val, sum_eq, h, h2, okB, getO, on_eq, hc, maj_eq, rOf, rOfT]
theorem pdsub_ok (a b : Int) : pDsubC a b = true ∧ pDsub a b = rDsub a b := by
  have h := fun x y z => of_C _ (diff_in x y z)
  have h2 := fun x y z => of_eq _ (diff_in x y z)
  simp [pDsubC, pDsub, pDsubT, rDsub, rDsubT, RT.val, diff_eq, h, h2, okB, getO, maj_eq, join_eq, rOf, rOfT, Bool.cond_self]
theorem parhl_ok (v : Int) : pArhl v = rArhl v := rfl
theorem low_ok (c : Bool) : pLow c = bif c then 1 else 0 := by cases c <;> rfl
theorem prot_ok (op a : Int) (c : Bool) : pRotC op a c = true ∧ pRot op a c = rRot op a c := by
  have h3 := and3 op
  simp only [pRotC, pRot, pRotT, rRot, rRotT, RT.val, low_ok, (rbit_ok c 0 (by decide)).1, (rbit_ok c 0 (by decide)).2, (rbit_ok c 7 (by decide)).1, (rbit_ok c 7 (by decide)).2]
  generalize andI .i64 op 3 = m at *
  have : m = 0 ∨ m = 1 ∨ m = 2 ∨ m = 3 := by omega
  rcases this with rfl | rfl | rfl | rfl <;> cases c <;> exact ⟨rfl, rfl⟩
theorem rrot_C (op a : Int) (c : Bool) : rRotC op a c = true := by
  have h3 := and3 op
  simp only [rRotC, rRotT, RT.val, (rbit_ok c 0 (by decide)).1, (rbit_ok c 7 (by decide)).1]
  generalize andI .i64 op 3 = m at *
  have : m = 0 ∨ m = 1 ∨ m = 2 ∨ m = 3 := by omega
  rcases this with rfl | rfl | rfl | rfl <;> rfl
theorem prdel_ok (v : Int) (c : Bool) (h : inR .u16 v) : pRdel v c = rRdel v c := by
  have hb := rbit_ok c 0 (by decide)
  have e : IntKind.wrap .u16 (bif c then 1 else 0) = IntKind.wrap .u16 (bif c then shlI .u8 1 0 else 0) := by cases c <;> rfl
  have hr : ∀ x, inR .u16 (orI .u16 x (IntKind.wrap .u16 (bif c then shlI .u8 1 0 else 0))) := fun x => (inR_bits _ _ _).2.1
  simp only [pRdel, pRdelT, rRdel, rRdelT, RT.val, low_ok, hb.1, hb.2, cond_true, getO, e]
  rw [and_top_ne _ (inR_bits _ _ _).2.2, tb_xor _ _ (hr _) h, and_top _ (hr _), and_top _ h]
  cases tb (orI .u16 (shlI .u16 v 1) (IntKind.wrap .u16 (bif c then shlI .u8 1 0 else 0))) <;> cases tb v <;> rfl
theorem rrdel_C (v : Int) (c : Bool) : rRdelC v c = true := by
  have hb := rbit_ok c 0 (by decide)
  simp [rRdelC, rRdelT, RT.val, hb.1, okB]
theorem pdad_ok (chip a b : Int) (f) (ha : inR .u16 a) (hb : inR .u16 b) : pDad chip a b f = rDad chip a b f := by
  have hr : inR .u16 (IntKind.wrap .u16 (a + b)) := inR_wrap _ _
  have ha' := inR_u16.1 ha
  have hb' := inR_u16.1 hb
  simp only [pDad, pDadT, rDad, rDadT, RT.val, on_eq]
  rw [and_top_ne _ (inR_bits _ _ _).1, tb_and _ _ (inR_bits _ _ _).2.2 (inR_bits _ _ _).2.2, tb_xor _ _ ha hr, tb_xor _ _ hb hr]
  have e1 : decide (IntKind.wrap .u16 (a + b) < a) = decide (IntKind.wrap .i64 (IntKind.wrap .i64 a + IntKind.wrap .i64 b) > 65535) := by
    rw [wrap_u16, wrap_i64 a (by omega) (by omega), wrap_i64 b (by omega) (by omega), wrap_i64 (a + b) (by omega) (by omega)]
    simp only [decide_eq_decide]; omega
  have e2 : (((tb a) ^^ (tb (IntKind.wrap .u16 (a + b)))) && ((tb b) ^^ (tb (IntKind.wrap .u16 (a + b))))) = (decide (IntKind.wrap .i64 (IntKind.wrap .i64 (IntKind.wrap .i16 a) + IntKind.wrap .i64 (IntKind.wrap .i16 b)) < -32768) || decide (IntKind.wrap .i64 (IntKind.wrap .i64 (IntKind.wrap .i16 a) + IntKind.wrap .i64 (IntKind.wrap .i16 b)) > 32767)) := by
    have ia := wrap_i16 a
    have ib := wrap_i16 b
    have hia : -32768 ≤ IntKind.wrap .i16 a ∧ IntKind.wrap .i16 a ≤ 32767 := by rw [ia]; split <;> omega
    have hib : -32768 ≤ IntKind.wrap .i16 b ∧ IntKind.wrap .i16 b ≤ 32767 := by rw [ib]; split <;> omega
    rw [wrap_i64 (IntKind.wrap .i16 a) (by omega) (by omega), wrap_i64 (IntKind.wrap .i16 b) (by omega) (by omega), wrap_i64 (IntKind.wrap .i16 a + IntKind.wrap .i16 b) (by omega) (by omega)]
    rw [ia, ib, wrap_u16]
    unfold tb
    by_cases h1 : a ≥ 32768 <;> by_cases h2 : b ≥ 32768 <;> by_cases h3 : (a + b) % 65536 ≥ 32768 <;> simp [h1, h2, h3] <;> (try split) <;> (try split) <;> omega
  rw [e1, e2]
theorem prim_ok (c l) : pRimC c l = true ∧ pRim c l = rRim c l ∧ rRimC c l = true := by
  have h : ∀ b n, 0 ≤ n → pSbitC b n = true ∧ pSbit b n = bif b then shlI .u8 1 n else 0 := fun b n h => by
    cases b <;> simp [pSbitC, pSbit, pSbitT, RT.val, h, okB, getO]
  have h3 : ∀ b, rBit14C b 3 = true ∧ rBit14 b 3 = bif b then shlI .u8 1 3 else 0 := fun b => by cases b <;> exact ⟨rfl, rfl⟩
  have h4 : ∀ b, rBit14C b 4 = true ∧ rBit14 b 4 = bif b then shlI .u8 1 4 else 0 := fun b => by cases b <;> exact ⟨rfl, rfl⟩
  have h5 : ∀ b, rBit14C b 5 = true ∧ rBit14 b 5 = bif b then shlI .u8 1 5 else 0 := fun b => by cases b <;> exact ⟨rfl, rfl⟩
  have h6 : ∀ b, rBit14C b 6 = true ∧ rBit14 b 6 = bif b then shlI .u8 1 6 else 0 := fun b => by cases b <;> exact ⟨rfl, rfl⟩
  have h7 : ∀ b, rBit14C b 7 = true ∧ rBit14 b 7 = bif b then shlI .u8 1 7 else 0 := fun b => by cases b <;> exact ⟨rfl, rfl⟩
  simp [pRimC, pRim, pRimT, rRimC, rRim, rRimT, RT.val, h, h3, h4, h5, h6, h7, okB, getO]
theorem psim_ok (c) (a : Int) : pSim c a = rSim c a := by
  simp only [pSim, pSimT, rSim, rSimT, RT.val]
theorem pvector_ok (s : Int) : pVector s = rVector s := by
  simp only [pVector, pVectorT, rVector, rVectorT, RT.val]
theorem plogic_ok (chip op a b : Int) : pLogicC chip op a b = true ∧ ∀ f, (andI .i64 op 7 = op) → 4 ≤ op → op ≤ 6 → pLogic chip op a b = rDo chip op a b f := by
  have h := fun x y => of_C _ (bits_in x y).1
  have h' := fun x y => of_C _ (bits_in x y).2.1
  have h'' := fun x y => of_C _ (bits_in x y).2.2
  have g := fun x y => of_eq _ (bits_in x y).1
  have g' := fun x y => of_eq _ (bits_in x y).2.1
  have g'' := fun x y => of_eq _ (bits_in x y).2.2
  have h0 := of_C 0 (by rw [inR_u8]; omega)
  constructor
  · cases h4 : op == 4 <;> cases h5 : op == 5 <;> cases h6 : op == 6 <;> simp [pLogicC, pLogicT, RT.val, h, h', h'', h0, okB, h4, h5, h6]
  · intro f e h4 h6
    have : op = 4 ∨ op = 5 ∨ op = 6 := by omega
    rcases this with rfl | rfl | rfl <;> cases hc : chip == 2 <;> simp [pLogic, pLogicT, rDo, rDoT, RT.val, h, h', h'', g, g', g'', getO, e, on_eq, hc, rOnly, rOnlyT, rOf, rOfT, maj_eq]
theorem pdo_ok (chip op a b : Int) (f) : pDoC chip op a b f = true ∧ pDo chip op a b f = rDo chip op a b f := by
  have h7 := and7 op
  have hs := fun x => of_C _ (sum_in a b x)
  have hs2 := fun x => of_eq _ (sum_in a b x)
  have hd := fun x => of_C _ (diff_in a b x)
  have hd2 := fun x => of_eq _ (diff_in a b x)
  have hl := plogic_ok chip (andI .i64 op 7) a b
  have hlt : decide (b < 128) = !decide (128 ≤ b) := by
    by_cases h : b < 128
    · have : ¬ 128 ≤ b := by omega
      simp [h, this]
    · have : 128 ≤ b := by omega
      simp [h, this]
  have hr : rDo chip (andI .i64 op 7) a b f = rDo chip op a b f := by
    have : andI .i64 (andI .i64 op 7) 7 = andI .i64 op 7 := by
      generalize andI .i64 op 7 = m at *
      rcases eight h7 with rfl | rfl | rfl | rfl | rfl | rfl | rfl | rfl <;> rfl
    simp only [rDo, rDoT, this]
  have he : andI .i64 (andI .i64 op 7) 7 = andI .i64 op 7 := by
    generalize andI .i64 op 7 = m at *
    rcases eight h7 with rfl | rfl | rfl | rfl | rfl | rfl | rfl | rfl <;> rfl
  rw [← hr]
  have hl2 := hl.2 f he
  have hl1 := hl.1
  clear hl hr
  simp only [pDoC, pDo, pDoT, RT.val]
  generalize andI .i64 op 7 = m at *
  rcases eight h7 with rfl | rfl | rfl | rfl | rfl | rfl | rfl | rfl
  case inr.inr.inr.inr.inl => simp [hl1, hl2, okB, getO]
  case inr.inr.inr.inr.inr.inl => simp [hl1, hl2, okB, getO]
  case inr.inr.inr.inr.inr.inr.inl => simp [hl1, hl2, okB, getO]
  all_goals cases hc : chip == 2 <;> simp [rDo, rDoT, RT.val, sum_eq, diff_eq, hs, hs2, hd, hd2, okB, getO, he, on_eq, hc, rOnly, rOnlyT, rOf, rOfT, maj_eq, hlt]
/-- All chips but the 8085 decode alike. -/
theorem pdec_chip (chip op : Int) (h : chip ≠ 2) : (pDecodeT chip op).val = (pDecodeT 0 op).val := by
  have h1 : (chip == 2) = false := by simpa using h
  have h0 : ((0 : Int) == 2) = false := rfl
  simp only [pDecodeT, RT.val, h1, h0]
theorem rdec_chip (chip op : Int) (h : chip ≠ 2) : (rDecodeT chip op).val = (rDecodeT 0 op).val := by
  have h1 : rOn chip = false := by simpa [on_eq] using h
  have h0 : rOn 0 = false := rfl
  simp only [rDecodeT, RT.val, h1, h0]
def decT (chip op : Int) : Bool := okB (pDecodeT chip op).val && okB (rDecodeT chip op).val && (pDecode chip op == rDecode chip op)
theorem dec_ok (chip op : Int) (h : inR .u8 op) : pDecodeC chip op = true ∧ pDecode chip op = rDecode chip op ∧ rDecodeC chip op = true := by
  have fin : ∀ c, decT c op = true → pDecodeC c op = true ∧ pDecode c op = rDecode c op ∧ rDecodeC c op = true := by
    intro c hc
    simp only [decT, Bool.and_eq_true, beq_iff_eq] at hc
    exact ⟨hc.1.1, hc.2, hc.1.2⟩
  by_cases hc : chip = 2
  · subst hc; exact fin 2 (byte_all (decT 2) (by kernel_rfl) op h)
  · have := fin 0 (byte_all (decT 0) (by kernel_rfl) op h)
    unfold pDecodeC pDecode rDecode rDecodeC at this ⊢
    rw [pdec_chip chip op hc, rdec_chip chip op hc]; exact this
def pParity1E : Entry := pureE pParityTs pParityRs (fun _ => none) (fun a => rParity a)
theorem pParity1_ok : EntryOk Tryz.prog 317 pParity1E := pParity_ok.tot (fun a h => by have h1 := (parity_eq a h).1; simp [h1]) (fun a h => (parity_eq a h).2)
def pMaj1E : Entry := pureE pMajTs pMajRs (fun _ => none) (fun a => rMaj a.1 a.2.1 a.2.2)
theorem pMaj1_ok : EntryOk Tryz.prog 301 pMaj1E := pMaj_ok.tot (fun a h => by simp) (fun a h => maj_eq _ _ _)
def pSum1E : Entry := pureE pSumTs pSumRs (fun _ => none) (fun a => rSum a.1 a.2.1 a.2.2)
theorem pSum1_ok : EntryOk Tryz.prog 290 pSum1E := pSum_ok.tot (fun a h => by simp) (fun a h => sum_eq _ _ _)
def pDiff1E : Entry := pureE pDiffTs pDiffRs (fun _ => none) (fun a => rDiff a.1 a.2.1 a.2.2)
theorem pDiff1_ok : EntryOk Tryz.prog 292 pDiff1E := pDiff_ok.tot (fun a h => by simp) (fun a h => diff_eq _ _ _)
def pJoin1E : Entry := pureE pJoinTs pJoinRs (fun _ => none) (fun a => rJoin a.1 a.2)
theorem pJoin1_ok : EntryOk Tryz.prog 217 pJoin1E := pJoin_ok.tot (fun a h => by simp) (fun a h => join_eq _ _)
def pGet1E : Entry := pureE pGetTs pGetRs (fun _ => none) (fun a => rGet a.1 a.2)
theorem pGet1_ok : EntryOk Tryz.prog 249 pGet1E := pGet_ok.tot (fun a h => by simp) (fun a h => pget_ok _ _)
def rGet1E : Entry := pureE rGetTs rGetRs (fun _ => none) (fun a => rGet a.1 a.2)
theorem rGet1_ok : EntryOk Tryz.prog 110 rGet1E := rGet_ok.tot (fun a h => by have h1 := get_C a.1 a.2; simp [h1]) (fun a h => rfl)
def pSet1E : Entry := pureE pSetTs pSetRs (fun _ => none) (fun a => rSet a.1 a.2.1 a.2.2)
theorem pSet1_ok : EntryOk Tryz.prog 269 pSet1E := pSet_ok.tot (fun a h => by simp) (fun a h => pset_ok _ _ _)
def pPair1E : Entry := pureE pPairTs pPairRs (fun _ => none) (fun a => rPair a.1 a.2)
theorem pPair1_ok : EntryOk Tryz.prog 248 pPair1E := pPair_ok.tot (fun a h => by simp) (fun a h => ppair_ok _ _)
def rPair1E : Entry := pureE rPairTs rPairRs (fun _ => none) (fun a => rPair a.1 a.2)
theorem rPair1_ok : EntryOk Tryz.prog 77 rPair1E := rPair_ok.tot (fun a h => by have h1 := rpair_C a.1 a.2; simp [h1]) (fun a h => rfl)
def pSetPair1E : Entry := pureE pSetPairTs pSetPairRs (fun _ => none) (fun a => rSetPair a.1 a.2.1 a.2.2)
theorem pSetPair1_ok : EntryOk Tryz.prog 270 pSetPair1E := pSetPair_ok.tot (fun a h => by simp) (fun a h => psetpair_ok _ _ _)
def pPSW1E : Entry := pureE pPSWTs pPSWRs (fun _ => none) (fun a => rPSW a.1 a.2)
theorem pPSW1_ok : EntryOk Tryz.prog 256 pPSW1E := pPSW_ok.tot (fun a h => by have h1 := (ppsw_ok a.1 a.2).1; simp [h1]) (fun a h => (ppsw_ok _ _).2)
def rPSW1E : Entry := pureE rPSWTs rPSWRs (fun _ => none) (fun a => rPSW a.1 a.2)
theorem rPSW1_ok : EntryOk Tryz.prog 118 rPSW1E := rPSW_ok.tot (fun a h => by have h1 := rpsw_C a.1 a.2; simp [h1]) (fun a h => rfl)
def pSetPSW1E : Entry := pureE pSetPSWTs pSetPSWRs (fun _ => none) (fun a => rSetPSW a.1 a.2.1 a.2.2)
theorem pSetPSW1_ok : EntryOk Tryz.prog 278 pSetPSW1E := pSetPSW_ok.tot (fun a h => by simp) (fun a h => psetpsw_ok _ _ _)
def pDo1E : Entry := pureE pDoTs pDoRs (fun _ => none) (fun a => rDo a.1 a.2.1 a.2.2.1 a.2.2.2.1 a.2.2.2.2)
theorem pDo1_ok : EntryOk Tryz.prog 271 pDo1E := pDo_ok.tot (fun a h => by have h1 := (pdo_ok a.1 a.2.1 a.2.2.1 a.2.2.2.1 a.2.2.2.2).1; simp [h1]) (fun a h => (pdo_ok _ _ _ _ _).2)
def pInr1E : Entry := pureE pInrTs pInrRs (fun _ => none) (fun a => rInr a.1 a.2.1 a.2.2)
theorem pInr1_ok : EntryOk Tryz.prog 250 pInr1E := pInr_ok.tot (fun a h => by have h1 := (pinr_ok a.1 a.2.1 a.2.2).1; simp [h1]) (fun a h => (pinr_ok _ _ _).2)
def pDcr1E : Entry := pureE pDcrTs pDcrRs (fun _ => none) (fun a => rDcr a.1 a.2.1 a.2.2)
theorem pDcr1_ok : EntryOk Tryz.prog 251 pDcr1E := pDcr_ok.tot (fun a h => by have h1 := (pdcr_ok a.1 a.2.1 a.2.2).1; simp [h1]) (fun a h => (pdcr_ok _ _ _).2)
def pInx1E : Entry := pureE pInxTs pInxRs (fun _ => none) (fun a => rInx a.1 a.2.1 a.2.2)
theorem pInx1_ok : EntryOk Tryz.prog 273 pInx1E := pInx_ok.tot (fun a h => by simp) (fun a h => pinx_ok _ _ _)
def pDcx1E : Entry := pureE pDcxTs pDcxRs (fun _ => none) (fun a => rDcx a.1 a.2.1 a.2.2)
theorem pDcx1_ok : EntryOk Tryz.prog 274 pDcx1E := pDcx_ok.tot (fun a h => by simp) (fun a h => pdcx_ok _ _ _)
def pDaa1E : Entry := pureE pDaaTs pDaaRs (fun _ => none) (fun a => rDaa a.1 a.2.1 a.2.2)
theorem pDaa1_ok : EntryOk Tryz.prog 276 pDaa1E := pDaa_ok.tot (fun a h => by have h1 := (pdaa_ok a.1 a.2.1 a.2.2).1; simp [h1]) (fun a h => (pdaa_ok _ _ _).2)
def pDad1E : Entry := pureE pDadTs pDadRs (fun _ => none) (fun a => rDad a.1 a.2.1 a.2.2.1 a.2.2.2)
theorem pDad1_ok : EntryOk Tryz.prog 275 pDad1E := pDad_ok.tot (fun a h => by simp) (fun a h => pdad_ok _ _ _ _ h.2.1 h.2.2.1)
def pDsub1E : Entry := pureE pDsubTs pDsubRs (fun _ => none) (fun a => rDsub a.1 a.2)
theorem pDsub1_ok : EntryOk Tryz.prog 280 pDsub1E := pDsub_ok.tot (fun a h => by have h1 := (pdsub_ok a.1 a.2).1; simp [h1]) (fun a h => (pdsub_ok _ _).2)
def pArhl1E : Entry := pureE pArhlTs pArhlRs (fun _ => none) (fun a => rArhl a)
theorem pArhl1_ok : EntryOk Tryz.prog 281 pArhl1E := pArhl_ok.tot (fun a h => by simp) (fun a h => parhl_ok _)
def pRot1E : Entry := pureE pRotTs pRotRs (fun _ => none) (fun a => rRot a.1 a.2.1 a.2.2)
theorem pRot1_ok : EntryOk Tryz.prog 277 pRot1E := pRot_ok.tot (fun a h => by have h1 := (prot_ok a.1 a.2.1 a.2.2).1; simp [h1]) (fun a h => (prot_ok _ _ _).2)
def rRot1E : Entry := pureE rRotTs rRotRs (fun _ => none) (fun a => rRot a.1 a.2.1 a.2.2)
theorem rRot1_ok : EntryOk Tryz.prog 143 rRot1E := rRot_ok.tot (fun a h => by have h1 := rrot_C a.1 a.2.1 a.2.2; simp [h1]) (fun a h => rfl)
def pRdel1E : Entry := pureE pRdelTs pRdelRs (fun _ => none) (fun a => rRdel a.1 a.2)
theorem pRdel1_ok : EntryOk Tryz.prog 282 pRdel1E := pRdel_ok.tot (fun a h => by simp) (fun a h => prdel_ok _ _ h.1)
def rRdel1E : Entry := pureE rRdelTs rRdelRs (fun _ => none) (fun a => rRdel a.1 a.2)
theorem rRdel1_ok : EntryOk Tryz.prog 146 rRdel1E := rRdel_ok.tot (fun a h => by have h1 := rrdel_C a.1 a.2; simp [h1]) (fun a h => rfl)
def pRim1E : Entry := pureE pRimTs pRimRs (fun _ => none) (fun a => rRim a.1 a.2)
theorem pRim1_ok : EntryOk Tryz.prog 242 pRim1E := pRim_ok.tot (fun a h => by have h1 := (prim_ok a.1 a.2).1; simp [h1]) (fun a h => (prim_ok _ _).2.1)
def rRim1E : Entry := pureE rRimTs rRimRs (fun _ => none) (fun a => rRim a.1 a.2)
theorem rRim1_ok : EntryOk Tryz.prog 78 rRim1E := rRim_ok.tot (fun a h => by have h1 := (prim_ok a.1 a.2).2.2; simp [h1]) (fun a h => rfl)
def pSim1E : Entry := pureE pSimTs pSimRs (fun _ => none) (fun a => rSim a.1 a.2)
theorem pSim1_ok : EntryOk Tryz.prog 243 pSim1E := pSim_ok.tot (fun a h => by simp) (fun a h => psim_ok _ _)
def pHolds1E : Entry := pureE pHoldsTs pHoldsRs (fun _ => none) (fun a => rHolds a.1 a.2)
theorem pHolds1_ok : EntryOk Tryz.prog 293 pHolds1E := pHolds_ok.tot (fun a h => by simp) (fun a h => holds_eq _ _)
def pVector1E : Entry := pureE pVectorTs pVectorRs (fun _ => none) (fun a => rVector a)
theorem pVector1_ok : EntryOk Tryz.prog 206 pVector1E := pVector_ok.tot (fun a h => by simp) (fun a h => pvector_ok _)
def pDecode1E : Entry := pureE pDecodeTs pDecodeRs (fun _ => none) (fun a => rDecode a.1 a.2)
theorem pDecode1_ok : EntryOk Tryz.prog 178 pDecode1E := pDecode_ok.tot (fun a h => by have h1 := (dec_ok a.1 a.2 h.2).1; simp [h1]) (fun a h => (dec_ok a.1 a.2 h.2).2.1)
def rDecode1E : Entry := pureE rDecodeTs rDecodeRs (fun _ => none) (fun a => rDecode a.1 a.2)
theorem rDecode1_ok : EntryOk Tryz.prog 25 rDecode1E := rDecode_ok.tot (fun a h => by have h1 := (dec_ok a.1 a.2 h.2).2.2; simp [h1]) (fun a h => rfl)
end
end Go.Proofs.YteboknglfjadoaaGreat
