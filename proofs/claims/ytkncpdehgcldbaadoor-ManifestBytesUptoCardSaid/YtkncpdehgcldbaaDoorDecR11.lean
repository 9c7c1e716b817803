/- tarmacref11.Decode. -/
import Derived.Test.YtkncpdehgcldbaaDoorDecRL
import Derived.Test.YtkncpdehgcldbaaDoorRef01RN
namespace Go.Proofs.YtkncpdehgcldbaaDoor
open Go Go.Eng Go.Proofs Go.Srt
theorem RIntRaw_spec {w : World} {b : Nat} {t : Bytes} (hh : Holds [(b, .cells ⟨[Str t]⟩ T_tarmacref01_Reader (0, 0))] w) (ht : t.length ≤ 70368744177664) :
    Cl Tryd.prog f_tarmacref01_Reader_Int [ptr b] w fun v w' => v = .tuple ⟨[.int .i64 (iv t), .int .i64 (errN (ie t))]⟩ ∧ St w [b] [(b, .cells ⟨[Str (ir t)]⟩ T_tarmacref01_Reader (0, 0))] w' := by
  have := RIntE_spec hh ht
  rw [errN_int] at this
  exact this
theorem RNumRaw_spec {w : World} {b : Nat} {t : Bytes} (hh : Holds [(b, .cells ⟨[Str t]⟩ T_tarmacref01_Reader (0, 0))] w) (ht : t.length ≤ 70368744177664) :
    Cl Tryd.prog f_tarmacref01_Reader_Num [ptr b] w fun v w' => v = .tuple ⟨[.int .u64 (nv t), .int .i64 (errN (ne11 t))]⟩ ∧ St w [b] [(b, .cells ⟨[Str (nr t)]⟩ T_tarmacref01_Reader (0, 0))] w' := by
  have := RNumE_spec hh ht
  rw [errN_num] at this
  exact this
theorem errN_b (b : Bool) : (errN b = 0) ↔ b = false := by cases b <;> simp [errN]
theorem mx0 (b : Bool) : mxI 0 (errN b) = errN b := by cases b <;> rfl
set_option maxRecDepth 4000 in
set_option maxHeartbeats 16000000 in
theorem Decode11_spec {w : World} {t : Bytes} (ht : t.length ≤ 16777000) :
    Cl Tryd.prog f_tarmacref11_Decode [Str t] w fun r w' => DecPost (decodeM t) r w w' := by
  have hS := St.start w
  refine en_tarmacref11_Decode rfl ?_
  repeat (first | refine SemW.run tblOk ?_ | refine IntG.nw (by omega) ?_ | refine IntG.nu8 (by omega) ?_ | refine IntG.nu32 (by omega) ?_ | refine IntG.nu64 (by omega) ?_ | refine IntG.wr' rfl ?_ | refine Chk.mk (by omega) ?_ | (refine BrG.id ?_; first | with_reducible refine BrG.t ?_ | with_reducible refine BrG.f ?_ | with_reducible refine BrG.notG ?_ | with_reducible refine BrG.nn ?_ | with_reducible refine BrG.ns ?_ | refine BrG.pos (by omega) ?_ | refine BrG.neg (by omega) ?_ | with_reducible refine BrG.pos rfl ?_ | refine BrG.pos (by assumption) ?_ | refine BrG.neg (by assumption) ?_ | refine BrG.pos (by decide) ?_ | refine BrG.neg (by decide) ?_) | refine Chk.mk (ptr_ok tblOk rfl rfl) ?_ | refine Chk.mk (by decide) ?_)
  refine hS.al ?_
  intro b2 w1 _ hS
  repeat (first | refine SemW.run tblOk ?_ | refine IntG.nw (by omega) ?_ | refine IntG.nu8 (by omega) ?_ | refine IntG.nu32 (by omega) ?_ | refine IntG.nu64 (by omega) ?_ | refine IntG.wr' rfl ?_ | refine Chk.mk (by omega) ?_ | (refine BrG.id ?_; first | with_reducible refine BrG.t ?_ | with_reducible refine BrG.f ?_ | with_reducible refine BrG.notG ?_ | with_reducible refine BrG.nn ?_ | with_reducible refine BrG.ns ?_ | refine BrG.pos (by omega) ?_ | refine BrG.neg (by omega) ?_ | with_reducible refine BrG.pos rfl ?_ | refine BrG.pos (by assumption) ?_ | refine BrG.neg (by assumption) ?_ | refine BrG.pos (by decide) ?_ | refine BrG.neg (by decide) ?_) | refine Chk.mk (ptr_ok tblOk rfl rfl) ?_ | refine Chk.mk (by decide) ?_)
  refine hS.al ?_
  intro rb w2 _ hS
  repeat (first | refine SemW.run tblOk ?_ | refine IntG.nw (by omega) ?_ | refine IntG.nu8 (by omega) ?_ | refine IntG.nu32 (by omega) ?_ | refine IntG.nu64 (by omega) ?_ | refine IntG.wr' rfl ?_ | refine Chk.mk (by omega) ?_ | (refine BrG.id ?_; first | with_reducible refine BrG.t ?_ | with_reducible refine BrG.f ?_ | with_reducible refine BrG.notG ?_ | with_reducible refine BrG.nn ?_ | with_reducible refine BrG.ns ?_ | refine BrG.pos (by omega) ?_ | refine BrG.neg (by omega) ?_ | with_reducible refine BrG.pos rfl ?_ | refine BrG.pos (by assumption) ?_ | refine BrG.neg (by assumption) ?_ | refine BrG.pos (by decide) ?_ | refine BrG.neg (by decide) ?_) | refine Chk.mk (ptr_ok tblOk rfl rfl) ?_ | refine Chk.mk (by decide) ?_)
  refine hS.al ?_
  intro b5 w3 _ hS
  repeat (first | refine SemW.run tblOk ?_ | refine IntG.nw (by omega) ?_ | refine IntG.nu8 (by omega) ?_ | refine IntG.nu32 (by omega) ?_ | refine IntG.nu64 (by omega) ?_ | refine IntG.wr' rfl ?_ | refine Chk.mk (by omega) ?_ | (refine BrG.id ?_; first | with_reducible refine BrG.t ?_ | with_reducible refine BrG.f ?_ | with_reducible refine BrG.notG ?_ | with_reducible refine BrG.nn ?_ | with_reducible refine BrG.ns ?_ | refine BrG.pos (by omega) ?_ | refine BrG.neg (by omega) ?_ | with_reducible refine BrG.pos rfl ?_ | refine BrG.pos (by assumption) ?_ | refine BrG.neg (by assumption) ?_ | refine BrG.pos (by decide) ?_ | refine BrG.neg (by decide) ?_) | refine Chk.mk (ptr_ok tblOk rfl rfl) ?_ | refine Chk.mk (by decide) ?_ | refine hS.ld rfl ?_ | refine hS.ldn rfl ?_ | (refine hS.st rfl rfl ?_; intro _ hS))
  refine Cl.mono (RNumRaw_spec (t := t) (hS.part (L := [(rb, .cells ⟨[Str t]⟩ T_tarmacref01_Reader (0, 0))])) (by omega)) ?_
  rintro _ w4 ⟨rfl, hS'⟩
  have hS := hS.call (L := [(rb, .cells ⟨[Str t]⟩ T_tarmacref01_Reader (0, 0))]) hS'
  have hnl : (nr t).length ≤ t.length := numO_len t
  have hnlt : nv t < 18446744073709551616 := numO_lt t
  have hS : St w [] ((b5, .cells ⟨[.slice none 0 0, .slice none 0 0, .int .i64 0, .int .i64 0, .int .i64 0]⟩ T_api_Edit (0, 0)) :: ([(rb, .cells ⟨[Str (nr t)]⟩ T_tarmacref01_Reader (0, 0))] ++ ([] ++ [(b2, .cells ⟨[.slice none 0 0, .slice none 0 0, .int .i64 0, .int .i64 0, .int .i64 0]⟩ T_api_Edit (0, 0))]))) w4 := hS
  have hj : (0 ≤ nv t ∧ rdF (nv t - 0) (⟨nr t, ne11 t⟩, []) = rdF (nv t) (⟨nr t, ne11 t⟩, []) ∧ ([] : List FileM).length + (nr t).length ≤ t.length + bit (ne11 t)) := ⟨Nat.zero_le _, rfl, by simp only [List.length_nil]; omega⟩
  repeat (first | refine SemW.run tblOk ?_ | refine IntG.nw (by omega) ?_ | refine IntG.nu8 (by omega) ?_ | refine IntG.nu32 (by omega) ?_ | refine IntG.nu64 (by omega) ?_ | refine IntG.wr' rfl ?_ | refine Chk.mk (by omega) ?_ | (refine BrG.id ?_; first | with_reducible refine BrG.t ?_ | with_reducible refine BrG.f ?_ | with_reducible refine BrG.notG ?_ | with_reducible refine BrG.nn ?_ | with_reducible refine BrG.ns ?_ | refine BrG.pos (by omega) ?_ | refine BrG.neg (by omega) ?_ | with_reducible refine BrG.pos rfl ?_ | refine BrG.pos (by assumption) ?_ | refine BrG.neg (by assumption) ?_ | refine BrG.pos (by decide) ?_ | refine BrG.neg (by decide) ?_) | refine Chk.mk (ptr_ok tblOk rfl rfl) ?_ | refine Chk.mk (by decide) ?_ | refine hS.ld rfl ?_ | refine hS.ldn rfl ?_ | (refine hS.st rfl rfl ?_; intro _ hS))
  refine StopW.join (fun z : EFI => [(0, Str t), (2, ptr b2), (4, ptr rb), (5, ptr b5), (6, .int .i64 0), (8, .int .i64 (errN z.s.bad))]) (fun z w' => ((z.s, z.l) = rdF (nv t) (⟨nr t, ne11 t⟩, []) ∧ z.l.length + z.s.t.length ≤ t.length + 1) ∧ ∃ L, Vec T_api_File 2 z.a z.l.length z.c (z.l.flatMap fileC) L ∧ St w [] ((b5, .cells ⟨[.slice z.a z.l.length z.c, .slice none 0 0, .int .i64 0, .int .i64 0, .int .i64 0]⟩ T_api_Edit (0, 0)) :: ([(rb, .cells ⟨[Str z.s.t]⟩ T_tarmacref01_Reader (0, 0))] ++ (L ++ [(b2, .cells ⟨[.slice none 0 0, .slice none 0 0, .int .i64 0, .int .i64 0, .int .i64 0]⟩ T_api_Edit (0, 0))]))) w') ?_ ?_
  · refine SemW.loop (fun z : EFI => [(0, Str t), (2, ptr b2), (4, ptr rb), (5, ptr b5), (6, .int .i64 0), (7, .int .u64 (nv t)), (8, .int .i64 (errN z.s.bad)), (9, .int .u64 z.i)])
      (fun z w' => (z.i ≤ nv t ∧ rdF (nv t - z.i) (z.s, z.l) = rdF (nv t) (⟨nr t, ne11 t⟩, []) ∧ z.l.length + z.s.t.length ≤ t.length + bit z.s.bad) ∧ ∃ L, Vec T_api_File 2 z.a z.l.length z.c (z.l.flatMap fileC) L ∧ St w [] ((b5, .cells ⟨[.slice z.a z.l.length z.c, .slice none 0 0, .int .i64 0, .int .i64 0, .int .i64 0]⟩ T_api_Edit (0, 0)) :: ([(rb, .cells ⟨[Str z.s.t]⟩ T_tarmacref01_Reader (0, 0))] ++ (L ++ [(b2, .cells ⟨[.slice none 0 0, .slice none 0 0, .int .i64 0, .int .i64 0, .int .i64 0]⟩ T_api_Edit (0, 0))]))) w') (fun z => nv t - z.i) ⟨0, ⟨nr t, ne11 t⟩, [], none, 0⟩
      ⟨rfl, rfl, rfl, rfl, rfl, rfl, rfl, rfl, trivial⟩ ⟨hj, [], Vec.nil, hS⟩ ?_
    clear hS hj hS'
    generalize hX : rdF (nv t) (⟨nr t, ne11 t⟩, []) = X
    rintro ⟨i, ⟨t1, bd⟩, l, a, c⟩ w5 ⟨⟨hi, hx, hsz⟩, L, hv, hS⟩
    simp only at hi hx hsz hv hS ⊢
    have hgo : i < nv t ∧ bd = false ∨ (⟨t1, bd⟩, l) = X ∧ (i = nv t ∨ bd = true) := by
      by_cases hin : i < nv t
      · cases bd with
        | true => rw [rdF_stop _ _ _ rfl] at hx; exact .inr ⟨hx, .inr rfl⟩
        | false => exact .inl ⟨hin, rfl⟩
      · rw [show nv t - i = 0 by omega] at hx; exact .inr ⟨hx, .inl (by omega)⟩
    rcases hgo with ⟨hin, rfl⟩ | ⟨rfl, hend⟩
    · have hb0 : bit false = 0 := rfl
      have he0 : errN false = 0 := rfl
      rw [show nv t - i = (nv t - (i + 1)) + 1 by omega, rdF_step _ _ _ rfl, secF_raw] at hx
      have hsl := secF_len (s := ⟨t1, false⟩) rfl
      rw [secF_raw] at hsl
      simp only at hsl hx
      have hr1 : (ir t1).length ≤ t1.length := intO_len t1
      rw [he0]
      repeat (first | refine SemW.run tblOk ?_ | refine IntG.nw (by omega) ?_ | refine IntG.nu8 (by omega) ?_ | refine IntG.nu32 (by omega) ?_ | refine IntG.nu64 (by omega) ?_ | refine IntG.wr' rfl ?_ | refine Chk.mk (by omega) ?_ | (refine BrG.id ?_; first | with_reducible refine BrG.t ?_ | with_reducible refine BrG.f ?_ | with_reducible refine BrG.notG ?_ | with_reducible refine BrG.nn ?_ | with_reducible refine BrG.ns ?_ | refine BrG.pos (by omega) ?_ | refine BrG.neg (by omega) ?_ | with_reducible refine BrG.pos rfl ?_ | refine BrG.pos (by assumption) ?_ | refine BrG.neg (by assumption) ?_ | refine BrG.pos (by decide) ?_ | refine BrG.neg (by decide) ?_) | refine Chk.mk (ptr_ok tblOk rfl rfl) ?_ | refine Chk.mk (by decide) ?_ | refine hS.ld rfl ?_ | refine hS.ldn rfl ?_ | (refine hS.st rfl rfl ?_; intro _ hS))
      refine Cl.mono (RIntRaw_spec (t := t1) (hS.part (L := [(rb, .cells ⟨[Str t1]⟩ T_tarmacref01_Reader (0, 0))])) (by omega)) ?_
      rintro _ w6 ⟨rfl, hS'⟩
      have hS := hS.call (L := [(rb, .cells ⟨[Str t1]⟩ T_tarmacref01_Reader (0, 0))]) hS'
      repeat (first | refine SemW.run tblOk ?_ | refine IntG.nw (by omega) ?_ | refine IntG.nu8 (by omega) ?_ | refine IntG.nu32 (by omega) ?_ | refine IntG.nu64 (by omega) ?_ | refine IntG.wr' rfl ?_ | refine Chk.mk (by omega) ?_ | (refine BrG.id ?_; first | with_reducible refine BrG.t ?_ | with_reducible refine BrG.f ?_ | with_reducible refine BrG.notG ?_ | with_reducible refine BrG.nn ?_ | with_reducible refine BrG.ns ?_ | refine BrG.pos (by omega) ?_ | refine BrG.neg (by omega) ?_ | with_reducible refine BrG.pos rfl ?_ | refine BrG.pos (by assumption) ?_ | refine BrG.neg (by assumption) ?_ | refine BrG.pos (by decide) ?_ | refine BrG.neg (by decide) ?_) | refine Chk.mk (ptr_ok tblOk rfl rfl) ?_ | refine Chk.mk (by decide) ?_ | refine hS.ld rfl ?_ | refine hS.ldn rfl ?_ | (refine hS.st rfl rfl ?_; intro _ hS))
      refine Cl.mono (RIntRaw_spec (t := (ir t1)) (hS.part (L := [(rb, .cells ⟨[Str (ir t1)]⟩ T_tarmacref01_Reader (0, 0))])) (by omega)) ?_
      rintro _ w7 ⟨rfl, hS'⟩
      have hS := hS.call (L := [(rb, .cells ⟨[Str (ir t1)]⟩ T_tarmacref01_Reader (0, 0))]) hS'
      repeat (first | refine SemW.run tblOk ?_ | refine IntG.nw (by omega) ?_ | refine IntG.nu8 (by omega) ?_ | refine IntG.nu32 (by omega) ?_ | refine IntG.nu64 (by omega) ?_ | refine IntG.wr' rfl ?_ | refine Chk.mk (by omega) ?_ | (refine BrG.id ?_; first | with_reducible refine BrG.t ?_ | with_reducible refine BrG.f ?_ | with_reducible refine BrG.notG ?_ | with_reducible refine BrG.nn ?_ | with_reducible refine BrG.ns ?_ | refine BrG.pos (by omega) ?_ | refine BrG.neg (by omega) ?_ | with_reducible refine BrG.pos rfl ?_ | refine BrG.pos (by assumption) ?_ | refine BrG.neg (by assumption) ?_ | refine BrG.pos (by decide) ?_ | refine BrG.neg (by decide) ?_) | refine Chk.mk (ptr_ok tblOk rfl rfl) ?_ | refine Chk.mk (by decide) ?_ | refine hS.ld rfl ?_ | refine hS.ldn rfl ?_ | (refine hS.st rfl rfl ?_; intro _ hS))
      refine hS.al ?_
      intro r w8 _ hS
      repeat (first | refine SemW.run tblOk ?_ | refine IntG.nw (by omega) ?_ | refine IntG.nu8 (by omega) ?_ | refine IntG.nu32 (by omega) ?_ | refine IntG.nu64 (by omega) ?_ | refine IntG.wr' rfl ?_ | refine Chk.mk (by omega) ?_ | (refine BrG.id ?_; first | with_reducible refine BrG.t ?_ | with_reducible refine BrG.f ?_ | with_reducible refine BrG.notG ?_ | with_reducible refine BrG.nn ?_ | with_reducible refine BrG.ns ?_ | refine BrG.pos (by omega) ?_ | refine BrG.neg (by omega) ?_ | with_reducible refine BrG.pos rfl ?_ | refine BrG.pos (by assumption) ?_ | refine BrG.neg (by assumption) ?_ | refine BrG.pos (by decide) ?_ | refine BrG.neg (by decide) ?_) | refine Chk.mk (ptr_ok tblOk rfl rfl) ?_ | refine Chk.mk (by decide) ?_ | refine hS.ld rfl ?_ | refine hS.ldn rfl ?_ | (refine hS.st rfl rfl ?_; intro _ hS))
      refine St.app (sz := 2) (m := 1) tblOk rfl rfl rfl rfl hS hv (news := fileC (iv t1, iv (ir t1))) rfl (by have := hS.arr (b := r) (T' := []) (by simp); exact this) rfl (by show (_ + _) * 16 ≤ _; omega) (by omega) ?_
      intro a2 c2 L2 w9 hv hS
      have e9 : l.flatMap fileC ++ fileC (iv t1, iv (ir t1)) = (l ++ [(iv t1, iv (ir t1))]).flatMap fileC := by simp
      have e8 : l.length + 1 = (l ++ [(iv t1, iv (ir t1))]).length := by simp
      rw [e9, e8] at hv
      rw [e8]
      have hmx := errN_or (ie t1) (ie (ir t1))
      unfold mxI at hmx
      repeat (first | refine SemW.run tblOk ?_ | refine IntG.nw (by omega) ?_ | refine IntG.nu8 (by omega) ?_ | refine IntG.nu32 (by omega) ?_ | refine IntG.nu64 (by omega) ?_ | refine IntG.wr' rfl ?_ | refine Chk.mk (by omega) ?_ | (refine BrG.id ?_; first | with_reducible refine BrG.t ?_ | with_reducible refine BrG.f ?_ | with_reducible refine BrG.notG ?_ | with_reducible refine BrG.nn ?_ | with_reducible refine BrG.ns ?_ | refine BrG.pos (by omega) ?_ | refine BrG.neg (by omega) ?_ | with_reducible refine BrG.pos rfl ?_ | refine BrG.pos (by assumption) ?_ | refine BrG.neg (by assumption) ?_ | refine BrG.pos (by decide) ?_ | refine BrG.neg (by decide) ?_) | refine Chk.mk (ptr_ok tblOk rfl rfl) ?_ | refine Chk.mk (by decide) ?_ | refine hS.ld rfl ?_ | refine hS.ldn rfl ?_ | (refine hS.st rfl rfl ?_; intro _ hS))
      rw [hmx]
      repeat (first | refine SemW.run tblOk ?_ | refine IntG.nw (by omega) ?_ | refine IntG.nu8 (by omega) ?_ | refine IntG.nu32 (by omega) ?_ | refine IntG.nu64 (by omega) ?_ | refine IntG.wr' rfl ?_ | refine Chk.mk (by omega) ?_ | (refine BrG.id ?_; first | with_reducible refine BrG.t ?_ | with_reducible refine BrG.f ?_ | with_reducible refine BrG.notG ?_ | with_reducible refine BrG.nn ?_ | with_reducible refine BrG.ns ?_ | refine BrG.pos (by omega) ?_ | refine BrG.neg (by omega) ?_ | with_reducible refine BrG.pos rfl ?_ | refine BrG.pos (by assumption) ?_ | refine BrG.neg (by assumption) ?_ | refine BrG.pos (by decide) ?_ | refine BrG.neg (by decide) ?_) | refine Chk.mk (ptr_ok tblOk rfl rfl) ?_ | refine Chk.mk (by decide) ?_ | refine hS.ld rfl ?_ | refine hS.ldn rfl ?_ | (refine hS.st rfl rfl ?_; intro _ hS))
      refine ⟨⟨i + 1, ⟨ir (ir t1), ie t1 || ie (ir t1)⟩, l ++ [(iv t1, iv (ir t1))], a2, c2⟩, ⟨rfl, rfl, rfl, rfl, rfl, rfl, rfl, rfl, trivial⟩, ⟨⟨by simp only; omega, hx, by simp only [List.length_append, List.length_singleton]; omega⟩, L2, hv, St.tl1 hS⟩, by simp only; omega⟩
    · have hfin : l.length + t1.length ≤ t.length + 1 := by unfold bit at hsz; split at hsz <;> omega
      rcases hend with rfl | rfl
      · repeat (first | refine SemW.run tblOk ?_ | refine IntG.nw (by omega) ?_ | refine IntG.nu8 (by omega) ?_ | refine IntG.nu32 (by omega) ?_ | refine IntG.nu64 (by omega) ?_ | refine IntG.wr' rfl ?_ | refine Chk.mk (by omega) ?_ | (refine BrG.id ?_; first | with_reducible refine BrG.t ?_ | with_reducible refine BrG.f ?_ | with_reducible refine BrG.notG ?_ | with_reducible refine BrG.nn ?_ | with_reducible refine BrG.ns ?_ | refine BrG.pos (by omega) ?_ | refine BrG.neg (by omega) ?_ | with_reducible refine BrG.pos rfl ?_ | refine BrG.pos (by assumption) ?_ | refine BrG.neg (by assumption) ?_ | refine BrG.pos (by decide) ?_ | refine BrG.neg (by decide) ?_) | refine Chk.mk (ptr_ok tblOk rfl rfl) ?_ | refine Chk.mk (by decide) ?_)
        exact ⟨rfl, ⟨nv t, ⟨t1, bd⟩, l, a, c⟩, ⟨rfl, rfl, rfl, rfl, rfl, rfl, trivial⟩, ⟨rfl, hfin⟩, L, hv, hS⟩
      · have he1 : errN true = 1 := rfl
        rw [he1]
        by_cases hin : i < nv t
        · repeat (first | refine SemW.run tblOk ?_ | refine IntG.nw (by omega) ?_ | refine IntG.nu8 (by omega) ?_ | refine IntG.nu32 (by omega) ?_ | refine IntG.nu64 (by omega) ?_ | refine IntG.wr' rfl ?_ | refine Chk.mk (by omega) ?_ | (refine BrG.id ?_; first | with_reducible refine BrG.t ?_ | with_reducible refine BrG.f ?_ | with_reducible refine BrG.notG ?_ | with_reducible refine BrG.nn ?_ | with_reducible refine BrG.ns ?_ | refine BrG.pos (by omega) ?_ | refine BrG.neg (by omega) ?_ | with_reducible refine BrG.pos rfl ?_ | refine BrG.pos (by assumption) ?_ | refine BrG.neg (by assumption) ?_ | refine BrG.pos (by decide) ?_ | refine BrG.neg (by decide) ?_) | refine Chk.mk (ptr_ok tblOk rfl rfl) ?_ | refine Chk.mk (by decide) ?_)
          exact ⟨rfl, ⟨nv t, ⟨t1, true⟩, l, a, c⟩, ⟨rfl, rfl, rfl, rfl, rfl, rfl, trivial⟩, ⟨rfl, hfin⟩, L, hv, hS⟩
        · repeat (first | refine SemW.run tblOk ?_ | refine IntG.nw (by omega) ?_ | refine IntG.nu8 (by omega) ?_ | refine IntG.nu32 (by omega) ?_ | refine IntG.nu64 (by omega) ?_ | refine IntG.wr' rfl ?_ | refine Chk.mk (by omega) ?_ | (refine BrG.id ?_; first | with_reducible refine BrG.t ?_ | with_reducible refine BrG.f ?_ | with_reducible refine BrG.notG ?_ | with_reducible refine BrG.nn ?_ | with_reducible refine BrG.ns ?_ | refine BrG.pos (by omega) ?_ | refine BrG.neg (by omega) ?_ | with_reducible refine BrG.pos rfl ?_ | refine BrG.pos (by assumption) ?_ | refine BrG.neg (by assumption) ?_ | refine BrG.pos (by decide) ?_ | refine BrG.neg (by decide) ?_) | refine Chk.mk (ptr_ok tblOk rfl rfl) ?_ | refine Chk.mk (by decide) ?_)
          exact ⟨rfl, ⟨nv t, ⟨t1, true⟩, l, a, c⟩, ⟨rfl, rfl, rfl, rfl, rfl, rfl, trivial⟩, ⟨rfl, hfin⟩, L, hv, hS⟩
  clear hS hj hS'
  rintro ⟨_, s1, l1, fa, fc⟩ w5 ⟨⟨h1, hl1⟩, La, hfv, hS⟩
  simp only at h1 hl1 hfv hS ⊢
  have hmx1 := mx0 s1.bad
  unfold mxI at hmx1
  have hS : St w [] ((b5, .cells ⟨[.slice fa l1.length fc, .slice none 0 0, .int .i64 0, .int .i64 0, .int .i64 0]⟩ T_api_Edit (0, 0)) :: ([(rb, .cells ⟨[Str s1.t]⟩ T_tarmacref01_Reader (0, 0))] ++ ([] ++ (La ++ [(b2, .cells ⟨[.slice none 0 0, .slice none 0 0, .int .i64 0, .int .i64 0, .int .i64 0]⟩ T_api_Edit (0, 0))])))) w5 := hS
  repeat (first | refine SemW.run tblOk ?_ | refine IntG.nw (by omega) ?_ | refine IntG.nu8 (by omega) ?_ | refine IntG.nu32 (by omega) ?_ | refine IntG.nu64 (by omega) ?_ | refine IntG.wr' rfl ?_ | refine Chk.mk (by omega) ?_ | (refine BrG.id ?_; first | with_reducible refine BrG.t ?_ | with_reducible refine BrG.f ?_ | with_reducible refine BrG.notG ?_ | with_reducible refine BrG.nn ?_ | with_reducible refine BrG.ns ?_ | refine BrG.pos (by omega) ?_ | refine BrG.neg (by omega) ?_ | with_reducible refine BrG.pos rfl ?_ | refine BrG.pos (by assumption) ?_ | refine BrG.neg (by assumption) ?_ | refine BrG.pos (by decide) ?_ | refine BrG.neg (by decide) ?_) | refine Chk.mk (ptr_ok tblOk rfl rfl) ?_ | refine Chk.mk (by decide) ?_ | refine hS.ld rfl ?_ | refine hS.ldn rfl ?_ | (refine hS.st rfl rfl ?_; intro _ hS))
  rw [hmx1]
  repeat (first | refine SemW.run tblOk ?_ | refine IntG.nw (by omega) ?_ | refine IntG.nu8 (by omega) ?_ | refine IntG.nu32 (by omega) ?_ | refine IntG.nu64 (by omega) ?_ | refine IntG.wr' rfl ?_ | refine Chk.mk (by omega) ?_ | (refine BrG.id ?_; first | with_reducible refine BrG.t ?_ | with_reducible refine BrG.f ?_ | with_reducible refine BrG.notG ?_ | with_reducible refine BrG.nn ?_ | with_reducible refine BrG.ns ?_ | refine BrG.pos (by omega) ?_ | refine BrG.neg (by omega) ?_ | with_reducible refine BrG.pos rfl ?_ | refine BrG.pos (by assumption) ?_ | refine BrG.neg (by assumption) ?_ | refine BrG.pos (by decide) ?_ | refine BrG.neg (by decide) ?_) | refine Chk.mk (ptr_ok tblOk rfl rfl) ?_ | refine Chk.mk (by decide) ?_ | refine hS.ld rfl ?_ | refine hS.ldn rfl ?_ | (refine hS.st rfl rfl ?_; intro _ hS))
  have hnl1 : (nr s1.t).length ≤ s1.t.length := numO_len s1.t
  have hnlt1 : nv s1.t < 18446744073709551616 := numO_lt s1.t
  refine Cl.mono (RNumRaw_spec (t := s1.t) (hS.part (L := [(rb, .cells ⟨[Str s1.t]⟩ T_tarmacref01_Reader (0, 0))])) (by omega)) ?_
  rintro _ w6 ⟨rfl, hS'⟩
  have hS := hS.call (L := [(rb, .cells ⟨[Str s1.t]⟩ T_tarmacref01_Reader (0, 0))]) hS'
  have hj : (0 ≤ nv s1.t ∧ rdI (nv s1.t - 0) (⟨nr s1.t, ne11 s1.t⟩, []) = rdI (nv s1.t) (⟨nr s1.t, ne11 s1.t⟩, []) ∧ ([] : List Int).length + (nr s1.t).length ≤ s1.t.length + bit (ne11 s1.t)) := ⟨Nat.zero_le _, rfl, by simp only [List.length_nil]; omega⟩
  repeat (first | refine SemW.run tblOk ?_ | refine IntG.nw (by omega) ?_ | refine IntG.nu8 (by omega) ?_ | refine IntG.nu32 (by omega) ?_ | refine IntG.nu64 (by omega) ?_ | refine IntG.wr' rfl ?_ | refine Chk.mk (by omega) ?_ | (refine BrG.id ?_; first | with_reducible refine BrG.t ?_ | with_reducible refine BrG.f ?_ | with_reducible refine BrG.notG ?_ | with_reducible refine BrG.nn ?_ | with_reducible refine BrG.ns ?_ | refine BrG.pos (by omega) ?_ | refine BrG.neg (by omega) ?_ | with_reducible refine BrG.pos rfl ?_ | refine BrG.pos (by assumption) ?_ | refine BrG.neg (by assumption) ?_ | refine BrG.pos (by decide) ?_ | refine BrG.neg (by decide) ?_) | refine Chk.mk (ptr_ok tblOk rfl rfl) ?_ | refine Chk.mk (by decide) ?_ | refine hS.ld rfl ?_ | refine hS.ldn rfl ?_ | (refine hS.st rfl rfl ?_; intro _ hS))
  refine StopW.join (fun z : EII => [(0, Str t), (2, ptr b2), (4, ptr rb), (5, ptr b5), (6, .int .i64 (errN s1.bad)), (8, .int .i64 (errN z.s.bad))]) (fun z w' => ((z.s, z.l) = rdI (nv s1.t) (⟨nr s1.t, ne11 s1.t⟩, []) ∧ z.l.length + z.s.t.length ≤ s1.t.length + 1) ∧ ∃ L, Vec T_int 1 z.a z.l.length z.c (z.l.map intV) L ∧ St w [] ((b5, .cells ⟨[.slice fa l1.length fc, .slice z.a z.l.length z.c, .int .i64 0, .int .i64 0, .int .i64 0]⟩ T_api_Edit (0, 0)) :: ([(rb, .cells ⟨[Str z.s.t]⟩ T_tarmacref01_Reader (0, 0))] ++ (L ++ (La ++ [(b2, .cells ⟨[.slice none 0 0, .slice none 0 0, .int .i64 0, .int .i64 0, .int .i64 0]⟩ T_api_Edit (0, 0))])))) w') ?_ ?_
  · refine SemW.loop (fun z : EII => [(0, Str t), (2, ptr b2), (4, ptr rb), (5, ptr b5), (6, .int .i64 (errN s1.bad)), (7, .int .u64 (nv s1.t)), (8, .int .i64 (errN z.s.bad)), (14, .int .u64 z.i)])
      (fun z w' => (z.i ≤ nv s1.t ∧ rdI (nv s1.t - z.i) (z.s, z.l) = rdI (nv s1.t) (⟨nr s1.t, ne11 s1.t⟩, []) ∧ z.l.length + z.s.t.length ≤ s1.t.length + bit z.s.bad) ∧ ∃ L, Vec T_int 1 z.a z.l.length z.c (z.l.map intV) L ∧ St w [] ((b5, .cells ⟨[.slice fa l1.length fc, .slice z.a z.l.length z.c, .int .i64 0, .int .i64 0, .int .i64 0]⟩ T_api_Edit (0, 0)) :: ([(rb, .cells ⟨[Str z.s.t]⟩ T_tarmacref01_Reader (0, 0))] ++ (L ++ (La ++ [(b2, .cells ⟨[.slice none 0 0, .slice none 0 0, .int .i64 0, .int .i64 0, .int .i64 0]⟩ T_api_Edit (0, 0))])))) w') (fun z => nv s1.t - z.i) ⟨0, ⟨nr s1.t, ne11 s1.t⟩, [], none, 0⟩
      ⟨rfl, rfl, rfl, rfl, rfl, rfl, rfl, rfl, trivial⟩ ⟨hj, [], Vec.nil, hS⟩ ?_
    clear hS hj hS'
    generalize hX : rdI (nv s1.t) (⟨nr s1.t, ne11 s1.t⟩, []) = X
    rintro ⟨i, ⟨t1, bd⟩, l, a, c⟩ w5 ⟨⟨hi, hx, hsz⟩, L, hv, hS⟩
    simp only at hi hx hsz hv hS ⊢
    have hgo : i < nv s1.t ∧ bd = false ∨ (⟨t1, bd⟩, l) = X ∧ (i = nv s1.t ∨ bd = true) := by
      by_cases hin : i < nv s1.t
      · cases bd with
        | true => rw [rdI_stop _ _ _ rfl] at hx; exact .inr ⟨hx, .inr rfl⟩
        | false => exact .inl ⟨hin, rfl⟩
      · rw [show nv s1.t - i = 0 by omega] at hx; exact .inr ⟨hx, .inl (by omega)⟩
    rcases hgo with ⟨hin, rfl⟩ | ⟨rfl, hend⟩
    · have hb0 : bit false = 0 := rfl
      have he0 : errN false = 0 := rfl
      rw [show nv s1.t - i = (nv s1.t - (i + 1)) + 1 by omega, rdI_step _ _ _ rfl, rbInt_raw, Bool.false_or] at hx
      have hsl := rbInt_len (s := ⟨t1, false⟩) rfl
      rw [rbInt_raw, Bool.false_or] at hsl
      simp only at hsl hx
      rw [he0]
      repeat (first | refine SemW.run tblOk ?_ | refine IntG.nw (by omega) ?_ | refine IntG.nu8 (by omega) ?_ | refine IntG.nu32 (by omega) ?_ | refine IntG.nu64 (by omega) ?_ | refine IntG.wr' rfl ?_ | refine Chk.mk (by omega) ?_ | (refine BrG.id ?_; first | with_reducible refine BrG.t ?_ | with_reducible refine BrG.f ?_ | with_reducible refine BrG.notG ?_ | with_reducible refine BrG.nn ?_ | with_reducible refine BrG.ns ?_ | refine BrG.pos (by omega) ?_ | refine BrG.neg (by omega) ?_ | with_reducible refine BrG.pos rfl ?_ | refine BrG.pos (by assumption) ?_ | refine BrG.neg (by assumption) ?_ | refine BrG.pos (by decide) ?_ | refine BrG.neg (by decide) ?_) | refine Chk.mk (ptr_ok tblOk rfl rfl) ?_ | refine Chk.mk (by decide) ?_ | refine hS.ld rfl ?_ | refine hS.ldn rfl ?_ | (refine hS.st rfl rfl ?_; intro _ hS))
      refine Cl.mono (RIntRaw_spec (t := t1) (hS.part (L := [(rb, .cells ⟨[Str t1]⟩ T_tarmacref01_Reader (0, 0))])) (by omega)) ?_
      rintro _ w6 ⟨rfl, hS'⟩
      have hS := hS.call (L := [(rb, .cells ⟨[Str t1]⟩ T_tarmacref01_Reader (0, 0))]) hS'
      repeat (first | refine SemW.run tblOk ?_ | refine IntG.nw (by omega) ?_ | refine IntG.nu8 (by omega) ?_ | refine IntG.nu32 (by omega) ?_ | refine IntG.nu64 (by omega) ?_ | refine IntG.wr' rfl ?_ | refine Chk.mk (by omega) ?_ | (refine BrG.id ?_; first | with_reducible refine BrG.t ?_ | with_reducible refine BrG.f ?_ | with_reducible refine BrG.notG ?_ | with_reducible refine BrG.nn ?_ | with_reducible refine BrG.ns ?_ | refine BrG.pos (by omega) ?_ | refine BrG.neg (by omega) ?_ | with_reducible refine BrG.pos rfl ?_ | refine BrG.pos (by assumption) ?_ | refine BrG.neg (by assumption) ?_ | refine BrG.pos (by decide) ?_ | refine BrG.neg (by decide) ?_) | refine Chk.mk (ptr_ok tblOk rfl rfl) ?_ | refine Chk.mk (by decide) ?_ | refine hS.ld rfl ?_ | refine hS.ldn rfl ?_ | (refine hS.st rfl rfl ?_; intro _ hS))
      refine hS.al ?_
      intro r w8 _ hS
      repeat (first | refine SemW.run tblOk ?_ | refine IntG.nw (by omega) ?_ | refine IntG.nu8 (by omega) ?_ | refine IntG.nu32 (by omega) ?_ | refine IntG.nu64 (by omega) ?_ | refine IntG.wr' rfl ?_ | refine Chk.mk (by omega) ?_ | (refine BrG.id ?_; first | with_reducible refine BrG.t ?_ | with_reducible refine BrG.f ?_ | with_reducible refine BrG.notG ?_ | with_reducible refine BrG.nn ?_ | with_reducible refine BrG.ns ?_ | refine BrG.pos (by omega) ?_ | refine BrG.neg (by omega) ?_ | with_reducible refine BrG.pos rfl ?_ | refine BrG.pos (by assumption) ?_ | refine BrG.neg (by assumption) ?_ | refine BrG.pos (by decide) ?_ | refine BrG.neg (by decide) ?_) | refine Chk.mk (ptr_ok tblOk rfl rfl) ?_ | refine Chk.mk (by decide) ?_ | refine hS.ld rfl ?_ | refine hS.ldn rfl ?_ | (refine hS.st rfl rfl ?_; intro _ hS))
      refine St.app (sz := 1) (m := 1) tblOk rfl rfl rfl rfl hS hv (news := [intV (iv t1)]) rfl (by have := hS.arr (b := r) (T' := []) (by simp); exact this) rfl (by show (_ + _) * 8 ≤ _; omega) (by omega) ?_
      intro a2 c2 L2 w9 hv hS
      have e9 : l.map intV ++ [intV (iv t1)] = (l ++ [iv t1]).map intV := by simp
      have e8 : l.length + 1 = (l ++ [iv t1]).length := by simp
      rw [e9, e8] at hv
      rw [e8]
      repeat (first | refine SemW.run tblOk ?_ | refine IntG.nw (by omega) ?_ | refine IntG.nu8 (by omega) ?_ | refine IntG.nu32 (by omega) ?_ | refine IntG.nu64 (by omega) ?_ | refine IntG.wr' rfl ?_ | refine Chk.mk (by omega) ?_ | (refine BrG.id ?_; first | with_reducible refine BrG.t ?_ | with_reducible refine BrG.f ?_ | with_reducible refine BrG.notG ?_ | with_reducible refine BrG.nn ?_ | with_reducible refine BrG.ns ?_ | refine BrG.pos (by omega) ?_ | refine BrG.neg (by omega) ?_ | with_reducible refine BrG.pos rfl ?_ | refine BrG.pos (by assumption) ?_ | refine BrG.neg (by assumption) ?_ | refine BrG.pos (by decide) ?_ | refine BrG.neg (by decide) ?_) | refine Chk.mk (ptr_ok tblOk rfl rfl) ?_ | refine Chk.mk (by decide) ?_ | refine hS.ld rfl ?_ | refine hS.ldn rfl ?_ | (refine hS.st rfl rfl ?_; intro _ hS))
      refine ⟨⟨i + 1, ⟨ir t1, ie t1⟩, l ++ [iv t1], a2, c2⟩, ⟨rfl, rfl, rfl, rfl, rfl, rfl, rfl, rfl, trivial⟩, ⟨⟨by simp only; omega, hx, by simp only [List.length_append, List.length_singleton]; omega⟩, L2, hv, St.tl1 hS⟩, by simp only; omega⟩
    · have hfin : l.length + t1.length ≤ s1.t.length + 1 := by unfold bit at hsz; split at hsz <;> omega
      rcases hend with rfl | rfl
      · repeat (first | refine SemW.run tblOk ?_ | refine IntG.nw (by omega) ?_ | refine IntG.nu8 (by omega) ?_ | refine IntG.nu32 (by omega) ?_ | refine IntG.nu64 (by omega) ?_ | refine IntG.wr' rfl ?_ | refine Chk.mk (by omega) ?_ | (refine BrG.id ?_; first | with_reducible refine BrG.t ?_ | with_reducible refine BrG.f ?_ | with_reducible refine BrG.notG ?_ | with_reducible refine BrG.nn ?_ | with_reducible refine BrG.ns ?_ | refine BrG.pos (by omega) ?_ | refine BrG.neg (by omega) ?_ | with_reducible refine BrG.pos rfl ?_ | refine BrG.pos (by assumption) ?_ | refine BrG.neg (by assumption) ?_ | refine BrG.pos (by decide) ?_ | refine BrG.neg (by decide) ?_) | refine Chk.mk (ptr_ok tblOk rfl rfl) ?_ | refine Chk.mk (by decide) ?_)
        exact ⟨rfl, ⟨nv s1.t, ⟨t1, bd⟩, l, a, c⟩, ⟨rfl, rfl, rfl, rfl, rfl, rfl, trivial⟩, ⟨rfl, hfin⟩, L, hv, hS⟩
      · have he1 : errN true = 1 := rfl
        rw [he1]
        by_cases hin : i < nv s1.t
        · repeat (first | refine SemW.run tblOk ?_ | refine IntG.nw (by omega) ?_ | refine IntG.nu8 (by omega) ?_ | refine IntG.nu32 (by omega) ?_ | refine IntG.nu64 (by omega) ?_ | refine IntG.wr' rfl ?_ | refine Chk.mk (by omega) ?_ | (refine BrG.id ?_; first | with_reducible refine BrG.t ?_ | with_reducible refine BrG.f ?_ | with_reducible refine BrG.notG ?_ | with_reducible refine BrG.nn ?_ | with_reducible refine BrG.ns ?_ | refine BrG.pos (by omega) ?_ | refine BrG.neg (by omega) ?_ | with_reducible refine BrG.pos rfl ?_ | refine BrG.pos (by assumption) ?_ | refine BrG.neg (by assumption) ?_ | refine BrG.pos (by decide) ?_ | refine BrG.neg (by decide) ?_) | refine Chk.mk (ptr_ok tblOk rfl rfl) ?_ | refine Chk.mk (by decide) ?_)
          exact ⟨rfl, ⟨nv s1.t, ⟨t1, true⟩, l, a, c⟩, ⟨rfl, rfl, rfl, rfl, rfl, rfl, trivial⟩, ⟨rfl, hfin⟩, L, hv, hS⟩
        · repeat (first | refine SemW.run tblOk ?_ | refine IntG.nw (by omega) ?_ | refine IntG.nu8 (by omega) ?_ | refine IntG.nu32 (by omega) ?_ | refine IntG.nu64 (by omega) ?_ | refine IntG.wr' rfl ?_ | refine Chk.mk (by omega) ?_ | (refine BrG.id ?_; first | with_reducible refine BrG.t ?_ | with_reducible refine BrG.f ?_ | with_reducible refine BrG.notG ?_ | with_reducible refine BrG.nn ?_ | with_reducible refine BrG.ns ?_ | refine BrG.pos (by omega) ?_ | refine BrG.neg (by omega) ?_ | with_reducible refine BrG.pos rfl ?_ | refine BrG.pos (by assumption) ?_ | refine BrG.neg (by assumption) ?_ | refine BrG.pos (by decide) ?_ | refine BrG.neg (by decide) ?_) | refine Chk.mk (ptr_ok tblOk rfl rfl) ?_ | refine Chk.mk (by decide) ?_)
          exact ⟨rfl, ⟨nv s1.t, ⟨t1, true⟩, l, a, c⟩, ⟨rfl, rfl, rfl, rfl, rfl, rfl, trivial⟩, ⟨rfl, hfin⟩, L, hv, hS⟩
  clear hS hj hS'
  rintro ⟨_, s2, l2, ia, ic⟩ w6 ⟨⟨h2, hl2⟩, Lb, hiv, hS⟩
  simp only at h2 hl2 hiv hS ⊢
  have hR : RefRead t s1 s2 l1 l2 := ⟨h1.symm, h2.symm⟩
  have hlaw := hR.law (by omega)
  have hok := hR.ok
  have ho1 := iv_ok s2.t
  have ho2 := iv_ok (ir s2.t)
  have ho3 := iv_ok (ir (ir s2.t))
  have hr1 : (ir s2.t).length ≤ s2.t.length := intO_len s2.t
  have hr2 : (ir (ir s2.t)).length ≤ (ir s2.t).length := intO_len (ir s2.t)
  rw [hlaw]
  clear hlaw h1 h2
  have hE : EditV fa ia fc ic (refE s2 l1 l2) La Lb := ⟨hfv, hiv, by show l1.length + l2.length ≤ _; omega, ⟨ho1.1, ho1.2, ho2.1, ho2.2, ho3.1, ho3.2⟩⟩
  repeat (first | refine SemW.run tblOk ?_ | refine IntG.nw (by omega) ?_ | refine IntG.nu8 (by omega) ?_ | refine IntG.nu32 (by omega) ?_ | refine IntG.nu64 (by omega) ?_ | refine IntG.wr' rfl ?_ | refine Chk.mk (by omega) ?_ | (refine BrG.id ?_; first | with_reducible refine BrG.t ?_ | with_reducible refine BrG.f ?_ | with_reducible refine BrG.notG ?_ | with_reducible refine BrG.nn ?_ | with_reducible refine BrG.ns ?_ | refine BrG.pos (by omega) ?_ | refine BrG.neg (by omega) ?_ | with_reducible refine BrG.pos rfl ?_ | refine BrG.pos (by assumption) ?_ | refine BrG.neg (by assumption) ?_ | refine BrG.pos (by decide) ?_ | refine BrG.neg (by decide) ?_) | refine Chk.mk (ptr_ok tblOk rfl rfl) ?_ | refine Chk.mk (by decide) ?_ | refine hS.ld rfl ?_ | refine hS.ldn rfl ?_ | (refine hS.st rfl rfl ?_; intro _ hS))
  refine Cl.mono (RIntRaw_spec (t := s2.t) (hS.part (L := [(rb, .cells ⟨[Str s2.t]⟩ T_tarmacref01_Reader (0, 0))])) (by omega)) ?_
  rintro _ w7 ⟨rfl, hS'⟩
  have hS := hS.call (L := [(rb, .cells ⟨[Str s2.t]⟩ T_tarmacref01_Reader (0, 0))]) hS'
  repeat (first | refine SemW.run tblOk ?_ | refine IntG.nw (by omega) ?_ | refine IntG.nu8 (by omega) ?_ | refine IntG.nu32 (by omega) ?_ | refine IntG.nu64 (by omega) ?_ | refine IntG.wr' rfl ?_ | refine Chk.mk (by omega) ?_ | (refine BrG.id ?_; first | with_reducible refine BrG.t ?_ | with_reducible refine BrG.f ?_ | with_reducible refine BrG.notG ?_ | with_reducible refine BrG.nn ?_ | with_reducible refine BrG.ns ?_ | refine BrG.pos (by omega) ?_ | refine BrG.neg (by omega) ?_ | with_reducible refine BrG.pos rfl ?_ | refine BrG.pos (by assumption) ?_ | refine BrG.neg (by assumption) ?_ | refine BrG.pos (by decide) ?_ | refine BrG.neg (by decide) ?_) | refine Chk.mk (ptr_ok tblOk rfl rfl) ?_ | refine Chk.mk (by decide) ?_ | refine hS.ld rfl ?_ | refine hS.ldn rfl ?_ | (refine hS.st rfl rfl ?_; intro _ hS))
  refine Cl.mono (RIntRaw_spec (t := (ir s2.t)) (hS.part (L := [(rb, .cells ⟨[Str (ir s2.t)]⟩ T_tarmacref01_Reader (0, 0))])) (by omega)) ?_
  rintro _ w8 ⟨rfl, hS'⟩
  have hS := hS.call (L := [(rb, .cells ⟨[Str (ir s2.t)]⟩ T_tarmacref01_Reader (0, 0))]) hS'
  repeat (first | refine SemW.run tblOk ?_ | refine IntG.nw (by omega) ?_ | refine IntG.nu8 (by omega) ?_ | refine IntG.nu32 (by omega) ?_ | refine IntG.nu64 (by omega) ?_ | refine IntG.wr' rfl ?_ | refine Chk.mk (by omega) ?_ | (refine BrG.id ?_; first | with_reducible refine BrG.t ?_ | with_reducible refine BrG.f ?_ | with_reducible refine BrG.notG ?_ | with_reducible refine BrG.nn ?_ | with_reducible refine BrG.ns ?_ | refine BrG.pos (by omega) ?_ | refine BrG.neg (by omega) ?_ | with_reducible refine BrG.pos rfl ?_ | refine BrG.pos (by assumption) ?_ | refine BrG.neg (by assumption) ?_ | refine BrG.pos (by decide) ?_ | refine BrG.neg (by decide) ?_) | refine Chk.mk (ptr_ok tblOk rfl rfl) ?_ | refine Chk.mk (by decide) ?_ | refine hS.ld rfl ?_ | refine hS.ldn rfl ?_ | (refine hS.st rfl rfl ?_; intro _ hS))
  refine Cl.mono (RIntRaw_spec (t := (ir (ir s2.t))) (hS.part (L := [(rb, .cells ⟨[Str (ir (ir s2.t))]⟩ T_tarmacref01_Reader (0, 0))])) (by omega)) ?_
  rintro _ w9 ⟨rfl, hS'⟩
  have hS := hS.call (L := [(rb, .cells ⟨[Str (ir (ir s2.t))]⟩ T_tarmacref01_Reader (0, 0))]) hS'
  repeat (first | refine SemW.run tblOk ?_ | refine IntG.nw (by omega) ?_ | refine IntG.nu8 (by omega) ?_ | refine IntG.nu32 (by omega) ?_ | refine IntG.nu64 (by omega) ?_ | refine IntG.wr' rfl ?_ | refine Chk.mk (by omega) ?_ | (refine BrG.id ?_; first | with_reducible refine BrG.t ?_ | with_reducible refine BrG.f ?_ | with_reducible refine BrG.notG ?_ | with_reducible refine BrG.nn ?_ | with_reducible refine BrG.ns ?_ | refine BrG.pos (by omega) ?_ | refine BrG.neg (by omega) ?_ | with_reducible refine BrG.pos rfl ?_ | refine BrG.pos (by assumption) ?_ | refine BrG.neg (by assumption) ?_ | refine BrG.pos (by decide) ?_ | refine BrG.neg (by decide) ?_) | refine Chk.mk (ptr_ok tblOk rfl rfl) ?_ | refine Chk.mk (by decide) ?_ | refine hS.ld rfl ?_ | refine hS.ldn rfl ?_ | (refine hS.st rfl rfl ?_; intro _ hS))
  refine Cl.mono (Encode11_spec (hE.at hS) hok) ?_
  rintro _ w10 ⟨rfl, hS'⟩
  have hS := hS.call0 hS'
  have hm : mxI (mxI (mxI (mxI (errN s1.bad) (errN s2.bad)) (errN (ie s2.t))) (errN (ie (ir s2.t)))) (errN (ie (ir (ir s2.t)))) = errN (refBad s1 s2) := by
    rw [errN_or, errN_or, errN_or, errN_or]; rfl
  have hm0 : mxI (mxI (mxI (mxI (mxI (errN s1.bad) (errN s2.bad)) (errN (ie s2.t))) (errN (ie (ir s2.t)))) (errN (ie (ir (ir s2.t))))) 0 = errN (refBad s1 s2) := by
    rw [hm]; cases refBad s1 s2 <;> rfl
  have hm1 : mxI (mxI (mxI (mxI (mxI (errN s1.bad) (errN s2.bad)) (errN (ie s2.t))) (errN (ie (ir s2.t)))) (errN (ie (ir (ir s2.t))))) 11 = 11 := by
    rw [hm]; cases refBad s1 s2 <;> rfl
  cases hr : rightE (refE s2 l1 l2) with
  | false =>
    have hev : encV (refE s2 l1 l2) = .tuple ⟨[Str [], .int .i64 11]⟩ := by unfold encV; rw [hr]; rfl
    rw [hev, if_neg (by rintro ⟨-, h, -⟩; cases h)]
    repeat (first | refine SemW.run tblOk ?_ | refine IntG.nw (by omega) ?_ | refine IntG.nu8 (by omega) ?_ | refine IntG.nu32 (by omega) ?_ | refine IntG.nu64 (by omega) ?_ | refine IntG.wr' rfl ?_ | refine Chk.mk (by omega) ?_ | (refine BrG.id ?_; first | with_reducible refine BrG.t ?_ | with_reducible refine BrG.f ?_ | with_reducible refine BrG.notG ?_ | with_reducible refine BrG.nn ?_ | with_reducible refine BrG.ns ?_ | refine BrG.pos (by omega) ?_ | refine BrG.neg (by omega) ?_ | with_reducible refine BrG.pos rfl ?_ | refine BrG.pos (by assumption) ?_ | refine BrG.neg (by assumption) ?_ | refine BrG.pos (by decide) ?_ | refine BrG.neg (by decide) ?_) | refine Chk.mk (ptr_ok tblOk rfl rfl) ?_ | refine Chk.mk (by decide) ?_ | refine hS.ld rfl ?_ | refine hS.ldn rfl ?_ | (refine hS.st rfl rfl ?_; intro _ hS))
    exact ⟨rfl, hS.nil⟩
  | true =>
    have hev : encV (refE s2 l1 l2) = .tuple ⟨[Str (editB (refE s2 l1 l2)), .int .i64 0]⟩ := by unfold encV; rw [hr]; rfl
    rw [hev]
    clear hev
    cases hb : refBad s1 s2 with
    | true =>
      rw [if_neg (by rintro ⟨h, -⟩; cases h)]
      rw [hb] at hm0
      have he1 : errN true = 1 := rfl
      repeat (first | refine SemW.run tblOk ?_ | refine IntG.nw (by omega) ?_ | refine IntG.nu8 (by omega) ?_ | refine IntG.nu32 (by omega) ?_ | refine IntG.nu64 (by omega) ?_ | refine IntG.wr' rfl ?_ | refine Chk.mk (by omega) ?_ | (refine BrG.id ?_; first | with_reducible refine BrG.t ?_ | with_reducible refine BrG.f ?_ | with_reducible refine BrG.notG ?_ | with_reducible refine BrG.nn ?_ | with_reducible refine BrG.ns ?_ | refine BrG.pos (by omega) ?_ | refine BrG.neg (by omega) ?_ | with_reducible refine BrG.pos rfl ?_ | refine BrG.pos (by assumption) ?_ | refine BrG.neg (by assumption) ?_ | refine BrG.pos (by decide) ?_ | refine BrG.neg (by decide) ?_) | refine Chk.mk (ptr_ok tblOk rfl rfl) ?_ | refine Chk.mk (by decide) ?_ | refine hS.ld rfl ?_ | refine hS.ldn rfl ?_ | (refine hS.st rfl rfl ?_; intro _ hS))
      exact ⟨rfl, hS.nil⟩
    | false =>
      rw [hb] at hm0
      have he0 : errN false = 0 := rfl
      by_cases hed : editB (refE s2 l1 l2) = t
      · rw [if_pos ⟨rfl, rfl, hed⟩]
        repeat (first | refine SemW.run tblOk ?_ | refine IntG.nw (by omega) ?_ | refine IntG.nu8 (by omega) ?_ | refine IntG.nu32 (by omega) ?_ | refine IntG.nu64 (by omega) ?_ | refine IntG.wr' rfl ?_ | refine Chk.mk (by omega) ?_ | (refine BrG.id ?_; first | with_reducible refine BrG.t ?_ | with_reducible refine BrG.f ?_ | with_reducible refine BrG.notG ?_ | with_reducible refine BrG.nn ?_ | with_reducible refine BrG.ns ?_ | refine BrG.pos (by omega) ?_ | refine BrG.neg (by omega) ?_ | with_reducible refine BrG.pos rfl ?_ | refine BrG.pos (by assumption) ?_ | refine BrG.neg (by assumption) ?_ | refine BrG.pos (by decide) ?_ | refine BrG.neg (by decide) ?_) | refine Chk.mk (ptr_ok tblOk rfl rfl) ?_ | refine Chk.mk (by decide) ?_ | refine hS.ld rfl ?_ | refine hS.ldn rfl ?_ | (refine hS.st rfl rfl ?_; intro _ hS))
        exact ⟨fa, ia, fc, ic, La, Lb, rfl, hE, ((St.tl2 hS).sub (List.Sublist.append_left (List.sublist_append_left _ _) Lb)).perm List.perm_append_comm⟩
      · rw [if_neg (fun h => hed h.2.2)]
        repeat (first | refine SemW.run tblOk ?_ | refine IntG.nw (by omega) ?_ | refine IntG.nu8 (by omega) ?_ | refine IntG.nu32 (by omega) ?_ | refine IntG.nu64 (by omega) ?_ | refine IntG.wr' rfl ?_ | refine Chk.mk (by omega) ?_ | (refine BrG.id ?_; first | with_reducible refine BrG.t ?_ | with_reducible refine BrG.f ?_ | with_reducible refine BrG.notG ?_ | with_reducible refine BrG.nn ?_ | with_reducible refine BrG.ns ?_ | refine BrG.pos (by omega) ?_ | refine BrG.neg (by omega) ?_ | with_reducible refine BrG.pos rfl ?_ | refine BrG.pos (by assumption) ?_ | refine BrG.neg (by assumption) ?_ | refine BrG.pos (by decide) ?_ | refine BrG.neg (by decide) ?_) | refine Chk.mk (ptr_ok tblOk rfl rfl) ?_ | refine Chk.mk (by decide) ?_ | refine hS.ld rfl ?_ | refine hS.ldn rfl ?_ | (refine hS.st rfl rfl ?_; intro _ hS))
        exact ⟨rfl, hS.nil⟩
end Go.Proofs.YtkncpdehgcldbaaDoor
