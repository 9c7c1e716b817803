/- tarmaclaw05.WalLasts returns true and leaves its arguments as they were, where what it reads is of bulk at most 1048576. -/
import Derived.Test.YtnmmiiffeenjbaaLasts
namespace Go.Proofs.Ytnmmiiffeenjbaa.walLasts
open Go Go.Eng Go.Proofs
open Go.ChangeShapes Go.WideShapes Go.ChangeAt Go.RowKit

set_option maxRecDepth 100000 in
theorem contract (H : Type) (enc : TypeId × Value → H) (W : World) (base : Nat) (args : Array Value) (ds gs : List (DataW H)) (before : List MemPlace)
    (hval : ∀ (j : Nat) t v, Try.f9.params[j]? = some t → args[j]? = some v → Value.okWide Try.prog W .any base t v)
    (hW : DataW.Whole enc Try.prog Try.f9.params.toList Rows.walLastsSpec.vars false W args.toList ds gs before) (hk : Rows.uptoSmall H (ds ++ gs) = true) :
    Calls Try.prog 9 args W fun e W' => ∃ v, e = .returned v ∧ Rows.walLastsSpec.post enc Try.prog Try.f9 false true false false W args v W' := by
  have hW' := hW
  obtain ⟨p, q, hA0, hV, rfl, hfz, hnd⟩ := hW
  have hA : DataW.TrodAll enc Try.prog W 0 (fun _ => true) true Try.f9.params.toList args.toList ds p := hA0
  rw [Try.params9] at hA hval
  obtain ⟨v0, vs0, d0, ds0, p0, q0, hargs0, rfl, rfl, h0, r0⟩ := trodAll_cons hA
  obtain ⟨v1, vs1, d1, ds1, p1, q1, hargs1, rfl, rfl, h1, r1⟩ := trodAll_cons r0
  obtain ⟨v2, vs2, d2, ds2, p2, q2, hargs2, rfl, rfl, h2, r2⟩ := trodAll_cons r1
  obtain ⟨rfl, rfl, rfl⟩ := trodAll_nil r2
  obtain rfl : args = #[v0, v1, v2] := by cases args; simp_all
  obtain ⟨rfl, rfl⟩ := trodVars_none hV
  have hb := bulk3 hk
  obtain ⟨xa0, xl0, xc0, rfl⟩ := okWide_slice Try.underlying63 (hval 0 63 v0 rfl rfl)
  obtain ⟨ls0, hR0, hB0⟩ := Trod.out h0 (Opens.slice Try.underlying63 (show Try.prog.cellsOf 22 = 1 by kernel_rfl) (by decide) (Opens.slice Try.underlying22 (show Try.prog.cellsOf 9 = 1 by kernel_rfl) (by decide) (Opens.str Try.underlying9)))
  have hR0 : RSl 1 (RSl 1 RStr) W [.slice xa0 xl0 xc0] ls0 := hR0
  have hB0 : sumLen ls0.flatten + ls0.flatten.length + ls0.length + 1 ≤ Rows.uptoBulk d0 := Nat.le_trans (Nat.le_of_eq (bulk_SS ls0).symm) hB0
  obtain ⟨a0, cap0, he0, hc0, hm0, hR0⟩ := hR0.inv
  cases he0
  obtain ⟨xa1, xl1, xc1, rfl⟩ := okWide_slice Try.underlying57 (hval 1 57 v1 rfl rfl)
  obtain ⟨ls1, hR1, hB1⟩ := Trod.out h1 (Opens.slice Try.underlying57 (show Try.prog.cellsOf 55 = 2 by kernel_rfl) (by decide) (Opens.pair (s0 := 1) (s1 := 1) Try.underlying55 rfl rfl (by kernel_rfl) (by kernel_rfl) (by kernel_rfl) (Opens.int Try.underlying3) (Opens.int Try.underlying3)))
  have hR1 : RSl 2 (RPair 1 (RInt .i64) (RInt .i64)) W [.slice xa1 xl1 xc1] ls1 := hR1
  have hB1 : 3 * ls1.length + 1 ≤ Rows.uptoBulk d1 := Nat.le_trans (Nat.le_of_eq (bulk_F ls1).symm) hB1
  obtain ⟨a1, cap1, he1, hc1, hm1, hR1⟩ := hR1.inv
  cases he1
  obtain ⟨n2, rfl, rfl, rfl, hw2⟩ := open_int Try.underlying3 (hval 2 3 v2 rfl rfl) h2
  have hr2 : -9223372036854775808 ≤ n2 ∧ n2 ≤ 9223372036854775807 := by simpa [Lit.wf, IntKind.min, IntKind.max, IntKind.signed, IntKind.bits] using hw2
  refine (calls_of_cl Try.call9 (WalLasts_spec hR0 hR1.fates (by omega) (by omega))).mono ?_
  rintro _ W' ⟨_, rfl, rfl, hst⟩
  exact ⟨_, rfl, post_true (tb := T_bool) laidTry (by rw [Try.params9]; kernel_rfl) rfl Try.underlying4 hW' rfl (fun _ => rfl) hst⟩

set_option maxRecDepth 100000 in
theorem lifted (os : Os) (started : os.Started) (H : Type) (enc : TypeId × Value → H) (F : Stop.Interp) :
    ReturnsInHanded {} Try.checked os 9 .any ((Rows.OpenSpec.upto Rows.walLastsSpec).pre6 enc Try.prog Try.f9 Rows.walLastsUptoRow.domain false) (((Rows.OpenSpec.upto Rows.walLastsSpec).at F).post enc Try.prog Try.f9 false true false false) := by
  refine returnsInHanded_of_cond (C := Try.checked) (s := Rows.OpenSpec.upto Rows.walLastsSpec) (k := Rows.uptoSmall) rfl ownTry started (by kernel_rfl) Try.func9
    (OpenSpec.witness (enc := enc) (C := Try.checked) (s := Rows.OpenSpec.upto Rows.walLastsSpec) (k := Rows.uptoSmall) rfl false ⟨#[], #[.slice none 0 0, .slice none 0 0, .int .i64 0], []⟩ 8 (by kernel_rfl) (by kernel_rfl) (by kernel_rfl)
      (x := ([.nil, .nil, .lit (.int .i64 0)], [], [])) (by kernel_rfl) rfl (by kernel_rfl)) ?_
  intro W base args ds gs before hval hW _ hk _
  exact contract H enc W base args ds gs before hval hW hk

theorem proved : Rows.WalLastsUptoSaid :=
  OpenClaim.holds_of_cond 9 Try.f9 rfl rfl rfl rfl rfl rfl rfl ⟨rfl, rfl, rfl, rfl, rfl⟩ rfl rfl rfl rfl rfl (by kernel_rfl) Try.func9 (by kernel_rfl)
    (of_decide_eq_true (by kernel_rfl)) (by unfold Func.isWrapper; first | (rw [if_pos (by decide +kernel)]; kernel_rfl) | (rw [if_neg (by decide +kernel)]; exact ⟨rfl, rfl⟩))
    (fun os started H enc _ F => lifted os started H enc F)
#print axioms proved
end Go.Proofs.Ytnmmiiffeenjbaa.walLasts
