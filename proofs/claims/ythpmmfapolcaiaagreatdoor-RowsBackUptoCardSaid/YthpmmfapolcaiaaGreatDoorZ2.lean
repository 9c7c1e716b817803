/- Texts of this claim, one behind the other. -/
import Derived.Shelf.Strconv.AtoiAll
import Derived.Lib.AtoiErrMem
import Derived.Ground.NamesProg
import Derived.Test.YthpmmfapolcaiaaGreatDoorProg
import Derived.Test.YthpmmfapolcaiaaGreatDoorZ1
import Derived.Test.YthpmmfapolcaiaaGreatDoorZ0
import Derived.WideLaws
import Derived.Lib.UnsafeStr
import Derived.Lib.MakeNoZero
import Derived.Lib.Builder
import Derived.Lib.Bytealg
/- The contracts on strconv.Atoi at every string, at this dump, by the kit's tool lay-plain; in the form of my own contracts. -/
namespace Go.Proofs
open Go.Shelf
def Tryz.laysAtoi_ren : Go.Shelf.Ren := ⟨fun | 172 => 75 | 244 => 113 | 245 => 114 | 247 => 136 | 279 => 137 | 280 => 138 | 281 => 139 | 282 => 140 | 287 => 150 | 316 => 151 | 171 => 67 | 205 => 152 | 321 => 160 | 322 => 161 | 243 => 109 | 246 => 133 | 283 => 146 | 284 => 147 | 285 => 148 | 286 => 149 | 129 => 156 | 317 => 155 | 318 => 157 | 319 => 158 | 320 => 159 | 337 => 166 | 338 => 167 | n => n, fun | 9 => 9 | 3 => 3 | 75 => 134 | 76 => 135 | 4 => 4 | 5 => 5 | 167 => 226 | 37 => 128 | 0 => 0 | 85 => 227 | 2 => 2 | 168 => 229 | 53 => 76 | 175 => 240 | 46 => 57 | 210 => 243 | 127 => 201 | 145 => 255 | 143 => 253 | 21 => 21 | 171 => 236 | 173 => 238 | 212 => 247 | 51 => 132 | 20 => 20 | 213 => 248 | 232 => 261 | 233 => 262 | 80 => 138 | n => n, fun | 15 => 1 | 16 => 2 | 17 => 3 | 18 => 4 | 19 => 5 | n => n⟩
theorem Tryz.laysAtoi : Go.Proofs.LaysC.n172 Tryz.prog Tryz.laysAtoi_ren := {
  mixed := by kernel_rfl
  f129 := Tryz.func156.trans (congrArg some (by kernel_rfl))
  f171 := Tryz.func67.trans (congrArg some (by kernel_rfl))
  f172 := Tryz.func75.trans (congrArg some (by kernel_rfl))
  f205 := Tryz.func152.trans (congrArg some (by kernel_rfl))
  f243 := Tryz.func109.trans (congrArg some (by kernel_rfl))
  f244 := Tryz.func113.trans (congrArg some (by kernel_rfl))
  f245 := Tryz.func114.trans (congrArg some (by kernel_rfl))
  f246 := Tryz.func133.trans (congrArg some (by kernel_rfl))
  f247 := Tryz.func136.trans (congrArg some (by kernel_rfl))
  f279 := Tryz.func137.trans (congrArg some (by kernel_rfl))
  f280 := Tryz.func138.trans (congrArg some (by kernel_rfl))
  f281 := Tryz.func139.trans (congrArg some (by kernel_rfl))
  f282 := Tryz.func140.trans (congrArg some (by kernel_rfl))
  f283 := Tryz.func146.trans (congrArg some (by kernel_rfl))
  f284 := Tryz.func147.trans (congrArg some (by kernel_rfl))
  f285 := Tryz.func148.trans (congrArg some (by kernel_rfl))
  f286 := Tryz.func149.trans (congrArg some (by kernel_rfl))
  f287 := Tryz.func150.trans (congrArg some (by kernel_rfl))
  f316 := Tryz.func151.trans (congrArg some (by kernel_rfl))
  f317 := Tryz.func155.trans (congrArg some (by kernel_rfl))
  f318 := Tryz.func157.trans (congrArg some (by kernel_rfl))
  f319 := Tryz.func158.trans (congrArg some (by kernel_rfl))
  f320 := Tryz.func159.trans (congrArg some (by kernel_rfl))
  f321 := Tryz.func160.trans (congrArg some (by kernel_rfl))
  f322 := Tryz.func161.trans (congrArg some (by kernel_rfl))
  f337 := Tryz.func166.trans (congrArg some (by kernel_rfl))
  f338 := Tryz.func167.trans (congrArg some (by kernel_rfl))
  t0 := Tryz.underlying0
  a0 := Tryz.isAgg0
  z0 := Tryz.sizeOf0
  v0 := Tryz.zeroValue0
  t2 := Tryz.underlying2
  a2 := Tryz.isAgg2
  z2 := Tryz.sizeOf2
  v2 := Tryz.zeroValue2
  t3 := Tryz.underlying3
  a3 := Tryz.isAgg3
  z3 := Tryz.sizeOf3
  v3 := Tryz.zeroValue3
  t4 := Tryz.underlying4
  a4 := Tryz.isAgg4
  z4 := Tryz.sizeOf4
  v4 := Tryz.zeroValue4
  t5 := Tryz.underlying5
  a5 := Tryz.isAgg5
  z5 := Tryz.sizeOf5
  v5 := Tryz.zeroValue5
  t9 := Tryz.underlying9
  a9 := Tryz.isAgg9
  z9 := Tryz.sizeOf9
  v9 := Tryz.zeroValue9
  t20 := Tryz.underlying20
  a20 := Tryz.isAgg20
  z20 := Tryz.sizeOf20
  v20 := Tryz.zeroValue20
  t21 := Tryz.underlying21
  a21 := Tryz.isAgg21
  z21 := Tryz.sizeOf21
  v21 := Tryz.zeroValue21
  t37 := Tryz.underlying128
  a37 := Tryz.isAgg128
  z37 := Tryz.sizeOf128
  v37 := Tryz.zeroValue128
  t46 := Tryz.underlying57
  a46 := Tryz.isAgg57
  z46 := Tryz.sizeOf57
  v46 := Tryz.zeroValue57
  t51 := Tryz.underlying132
  a51 := Tryz.isAgg132
  z51 := Tryz.sizeOf132
  v51 := Tryz.zeroValue132
  t53 := Tryz.underlying76
  a53 := Tryz.isAgg76
  z53 := Tryz.sizeOf76
  v53 := Tryz.zeroValue76
  t75 := Tryz.underlying134
  a75 := Tryz.isAgg134
  z75 := Tryz.sizeOf134
  v75 := Tryz.zeroValue134
  t76 := Tryz.underlying135
  a76 := Tryz.isAgg135
  z76 := Tryz.sizeOf135
  v76 := Tryz.zeroValue135
  t85 := Tryz.underlying227
  a85 := Tryz.isAgg227
  z85 := Tryz.sizeOf227
  v85 := Tryz.zeroValue227
  t127 := Tryz.underlying201
  a127 := Tryz.isAgg201
  z127 := Tryz.sizeOf201
  v127 := Tryz.zeroValue201
  t143 := Tryz.underlying253
  a143 := Tryz.isAgg253
  z143 := Tryz.sizeOf253
  v143 := Tryz.zeroValue253
  t145 := Tryz.underlying255
  a145 := Tryz.isAgg255
  z145 := Tryz.sizeOf255
  v145 := Tryz.zeroValue255
  t167 := Tryz.underlying226
  a167 := Tryz.isAgg226
  z167 := Tryz.sizeOf226
  v167 := Tryz.zeroValue226
  t168 := Tryz.underlying229
  a168 := Tryz.isAgg229
  z168 := Tryz.sizeOf229
  v168 := Tryz.zeroValue229
  t171 := Tryz.underlying236
  a171 := Tryz.isAgg236
  z171 := Tryz.sizeOf236
  v171 := Tryz.zeroValue236
  t173 := Tryz.underlying238
  a173 := Tryz.isAgg238
  z173 := Tryz.sizeOf238
  v173 := Tryz.zeroValue238
  t175 := Tryz.underlying240
  a175 := Tryz.isAgg240
  z175 := Tryz.sizeOf240
  v175 := Tryz.zeroValue240
  t210 := Tryz.underlying243
  a210 := Tryz.isAgg243
  z210 := Tryz.sizeOf243
  v210 := Tryz.zeroValue243
  t212 := Tryz.underlying247
  a212 := Tryz.isAgg247
  z212 := Tryz.sizeOf247
  v212 := Tryz.zeroValue247
  t213 := Tryz.underlying248
  a213 := Tryz.isAgg248
  z213 := Tryz.sizeOf248
  t232 := Tryz.underlying261
  a232 := Tryz.isAgg261
  z232 := Tryz.sizeOf261
  v232 := Tryz.zeroValue261
  t233 := Tryz.underlying262
  a233 := Tryz.isAgg262
  z233 := Tryz.sizeOf262
  v233 := Tryz.zeroValue262
  g15 := by kernel_rfl
  g16 := by kernel_rfl
  g17 := by kernel_rfl
  g18 := by kernel_rfl
  g19 := by kernel_rfl
  t80 := Tryz.underlying138
  a80 := Tryz.isAgg138
  z80 := Tryz.sizeOf138
  v80 := Tryz.zeroValue138
  i0 := by kernel_rfl
  i2 := by kernel_rfl
  i3 := by kernel_rfl
  i4 := by kernel_rfl
  i5 := by kernel_rfl
  i9 := by kernel_rfl
  i20 := by kernel_rfl
  i21 := by kernel_rfl
  i37 := by kernel_rfl
  i46 := by kernel_rfl
  i51 := by kernel_rfl
  i53 := by kernel_rfl
  i75 := by kernel_rfl
  i76 := by kernel_rfl
  i80 := by kernel_rfl
  i85 := by kernel_rfl
  i127 := by kernel_rfl
  i143 := by kernel_rfl
  i145 := by kernel_rfl
  i167 := by kernel_rfl
  i168 := by kernel_rfl
  i171 := by kernel_rfl
  i173 := by kernel_rfl
  i175 := by kernel_rfl
  i210 := by kernel_rfl
  i212 := by kernel_rfl
  i232 := by kernel_rfl
  i233 := by kernel_rfl
  m15 := by kernel_rfl
  m16 := by kernel_rfl
  m17 := by kernel_rfl
  m18 := by kernel_rfl
  m19 := by kernel_rfl
  c0 := by kernel_rfl
  c2 := by kernel_rfl
  c3 := by kernel_rfl
  c4 := by kernel_rfl
  c5 := by kernel_rfl
  c9 := by kernel_rfl
  c20 := by kernel_rfl
  c21 := by kernel_rfl
  c37 := by kernel_rfl
  c46 := by kernel_rfl
  c51 := by kernel_rfl
  c53 := by kernel_rfl
  c75 := by kernel_rfl
  c76 := by kernel_rfl
  c80 := by kernel_rfl
  c85 := by kernel_rfl
  c127 := by kernel_rfl
  c143 := by kernel_rfl
  c145 := by kernel_rfl
  c167 := by kernel_rfl
  c168 := by kernel_rfl
  c171 := by kernel_rfl
  c173 := by kernel_rfl
  c175 := by kernel_rfl
  c210 := by kernel_rfl
  c212 := by kernel_rfl
  c213 := by kernel_rfl
  c232 := by kernel_rfl
  c233 := by kernel_rfl }
end Go.Proofs
namespace Go.Proofs.YthpmmfapolcaiaaGreatDoor
open Go Go.Eng Go.Proofs Go.RowKit

/-- The blocks of strconv.ErrSyntax, strconv.ErrRange. -/
abbrev errG0 : Nat := 1
abbrev errG1 : Nat := 2
/-- The two variables hold errors. -/
structure ErrVars (w : World) : Prop where
  syn : ∃ t p, w.cell? ⟨errG0, 0, none⟩ = some (.iface t p)
  ran : ∃ t p, w.cell? ⟨errG1, 0, none⟩ = some (.iface t p)
theorem ErrVars.keep {w0 w : World} {T : List Nat} {H : Heap} (h : ErrVars w0) (hS : St w0 T H w) (h0 : errG0 ∉ T) (h1 : errG1 ∉ T) : ErrVars w := by
  obtain ⟨⟨t, p, e⟩, ⟨t', p', e'⟩⟩ := h
  exact ⟨⟨t, p, hS.oldCell h0 e⟩, ⟨t', p', hS.oldCell h1 e'⟩⟩
theorem ErrVars.apart {w : World} (h : ErrVars w) {b : Nat} {x : Value} {l : List Value} {t : TypeId} {fz : Nat × Nat} (hm : w.heap[b]? = some (.cells ⟨x :: l⟩ t fz)) (hx : ∀ t p, x ≠ .iface t p) : b ≠ errG0 ∧ b ≠ errG1 := by
  obtain ⟨⟨t0, p0, e0⟩, ⟨t1, p1, e1⟩⟩ := h
  refine ⟨fun e => ?_, fun e => ?_⟩
  · subst e
    simp [World.cell?, hm] at e0
    exact hx _ _ e0
  · subst e
    simp [World.cell?, hm] at e1
    exact hx _ _ e1
theorem St.of_below {w w' : World} (h : Below w.heap.size w w') : St w [] [] w' :=
  ⟨h.os, h.tape, h.output, h.size, fun b hb _ => h.block b hb, by simp, by simp [keys], by simp⟩
theorem atoiAll_rng {s : Bytes} {v : Int} (h : Lib.atoiAll s = .ok v) : -9223372036854775808 ≤ v ∧ v ≤ 9223372036854775807 := by
  unfold Lib.atoiAll at h
  split at h
  · cases h
  · simp only at h
    split at h
    · cases h
    · cases h
    · split at h
      · cases h
      · split at h
        · cases h
        · simp only [Lib.NumEnd.ok.injEq] at h
          subst h
          split <;> omega
theorem Atoi_specZ {w : World} {s : Bytes} (hs : s.length ≤ 281474976710656) (hE : ErrVars w) : Cl Tryz.prog f_strconv_Atoi [Str s] w fun v w' => St w [] [] w' ∧
    ∃ n ev, v = .tuple ⟨[.int .i64 n, ev]⟩ ∧ (-9223372036854775808 ≤ n ∧ n ≤ 9223372036854775807) ∧ ((Lib.atoiAll s = .ok n ∧ ev = .nilIface) ∨ ((∀ m, Lib.atoiAll s ≠ .ok m) ∧ (n ≤ 0 ∨ 99 < n) ∧ ∃ t p, ev = .iface t p)) := by
  have hsz : (ByteArray.mk (Array.mk s)).size = s.length := rfl
  obtain ⟨⟨t0, p0, e0⟩, ⟨t1, p1, e1⟩⟩ := hE
  refine .inl ⟨Tryz.call75 _ _, ?_⟩
  cases h : Lib.atoiAll s
  · next v =>
    refine Calls.mono (Any.strconv_Atoi_ok Tryz.laysAtoi ⟨⟨s⟩⟩ (by omega) v h w) ?_
    rintro e w' ⟨rfl, hw⟩
    refine ⟨_, rfl, ?_, v, .nilIface, rfl, atoiAll_rng h, .inl ⟨rfl, rfl⟩⟩
    rcases hw with rfl | ⟨t, rfl⟩
    · exact St.start _
    · exact St.of_below (Lib.bytesWorld_below _ _ _)
  · refine Calls.mono (Any.strconv_Atoi_syntax Tryz.laysAtoi ⟨⟨s⟩⟩ (by omega) h _ w e0 (.inr ⟨_, _, rfl⟩)) ?_
    rintro e w' ⟨M, rfl, -, -, hb⟩
    exact ⟨_, rfl, St.of_below hb, 0, _, rfl, ⟨by omega, by omega⟩, .inr ⟨(fun m hm => by cases hm), .inl (Int.le_refl 0), _, _, rfl⟩⟩
  · refine Calls.mono (Any.strconv_Atoi_range Tryz.laysAtoi ⟨⟨s⟩⟩ (by omega) h _ w e1 (.inr ⟨_, _, rfl⟩)) ?_
    rintro e w' ⟨M, rfl, -, -, hb⟩
    exact ⟨_, rfl, St.of_below hb, Lib.atoiSat s, _, rfl, (by unfold Lib.atoiSat; split <;> omega), .inr ⟨(fun m hm => by cases hm), (by unfold Lib.atoiSat; split <;> omega), _, _, rfl⟩⟩
theorem Atoi_spec {w : World} {s : Bytes} (hs : s.length ≤ 281474976710656) (hE : ErrVars w) : Cl Tryz.prog f_strconv_Atoi [Str s] w fun v w' => St w [] [] w' ∧
    ∃ n ev, v = .tuple ⟨[.int .i64 n, ev]⟩ ∧ ((Lib.atoiAll s = .ok n ∧ ev = .nilIface) ∨ ((∀ m, Lib.atoiAll s ≠ .ok m) ∧ (n ≤ 0 ∨ 99 < n) ∧ ∃ t p, ev = .iface t p)) :=
  (Atoi_specZ hs hE).mono fun _ _ ⟨h1, n, ev, h2, _, h3⟩ => ⟨h1, n, ev, h2, h3⟩
end Go.Proofs.YthpmmfapolcaiaaGreatDoor

/- strconv.Itoa below 100. -/
namespace Go.Proofs.YthpmmfapolcaiaaGreatDoor
open Go Go.Eng Go.Proofs
theorem small_spec {w : World} (n : Nat) (hn : n < 100) : Cl Tryz.prog f_internal_strconv_small [.int .i64 n] w fun v w' => v = Str (digB n) ∧ St w [] [] w' := by
  have hS := St.start w
  refine en_internal_strconv_small rfl ?_
  by_cases h : n < 10
  · repeat (first | refine SemW.run tblOk ?_ | refine jA (by omega) ?_ | refine jB (by omega) ?_ | refine jC (by omega) ?_ | refine jD (by omega) ?_ | refine jE rfl ?_ | refine jF (by omega) ?_ | (refine jG ?_; first | with_reducible (first | refine jH ?_ | refine jI ?_ | refine jJ ?_ | refine jK ?_ | refine jL ?_) | refine jM (by omega) ?_ | refine jN (by omega) ?_ | with_reducible refine jM rfl ?_ | refine jM (by assumption) ?_ | refine jN (by assumption) ?_ | refine jM (by decide) ?_ | refine jN (by decide) ?_) | refine jF (ptr_ok tblOk rfl rfl) ?_ | refine jO (fun _ => by kernel_rfl) ?_ | refine jF (by decide) ?_)
    refine Chk.mk ⟨by omega, by omega, by show (_ : Int) ≤ ((36 : Nat) : Int); omega⟩ ?_
    repeat (first | refine SemW.run tblOk ?_ | refine jA (by omega) ?_ | refine jB (by omega) ?_ | refine jC (by omega) ?_ | refine jD (by omega) ?_ | refine jE rfl ?_ | refine jF (by omega) ?_ | (refine jG ?_; first | with_reducible (first | refine jH ?_ | refine jI ?_ | refine jJ ?_ | refine jK ?_ | refine jL ?_) | refine jM (by omega) ?_ | refine jN (by omega) ?_ | with_reducible refine jM rfl ?_ | refine jM (by assumption) ?_ | refine jN (by assumption) ?_ | refine jM (by decide) ?_ | refine jN (by decide) ?_) | refine jF (ptr_ok tblOk rfl rfl) ?_ | refine jO (fun _ => by kernel_rfl) ?_ | refine jF (by decide) ?_)
    refine ⟨?_, hS⟩
    refine congrArg Str ?_
    have key : ∀ i : Fin 10, (List.take ((((i.val : Nat) : Int)) + 1).toNat ([48, 49, 50, 51, 52, 53, 54, 55, 56, 57, 97, 98, 99, 100, 101, 102, 103, 104, 105, 106, 107, 108, 109, 110, 111, 112, 113, 114, 115, 116, 117, 118, 119, 120, 121, 122] : List UInt8)).drop (((i.val : Nat) : Int)).toNat = digB i.val := by decide +kernel
    exact key ⟨n, h⟩
  · repeat (first | refine SemW.run tblOk ?_ | refine jA (by omega) ?_ | refine jB (by omega) ?_ | refine jC (by omega) ?_ | refine jD (by omega) ?_ | refine jE rfl ?_ | refine jF (by omega) ?_ | (refine jG ?_; first | with_reducible (first | refine jH ?_ | refine jI ?_ | refine jJ ?_ | refine jK ?_ | refine jL ?_) | refine jM (by omega) ?_ | refine jN (by omega) ?_ | with_reducible refine jM rfl ?_ | refine jM (by assumption) ?_ | refine jN (by assumption) ?_ | refine jM (by decide) ?_ | refine jN (by decide) ?_) | refine jF (ptr_ok tblOk rfl rfl) ?_ | refine jO (fun _ => by kernel_rfl) ?_ | refine jF (by decide) ?_)
    refine Chk.mk ⟨by omega, by omega, by show (_ : Int) ≤ ((200 : Nat) : Int); omega⟩ ?_
    repeat (first | refine SemW.run tblOk ?_ | refine jA (by omega) ?_ | refine jB (by omega) ?_ | refine jC (by omega) ?_ | refine jD (by omega) ?_ | refine jE rfl ?_ | refine jF (by omega) ?_ | (refine jG ?_; first | with_reducible (first | refine jH ?_ | refine jI ?_ | refine jJ ?_ | refine jK ?_ | refine jL ?_) | refine jM (by omega) ?_ | refine jN (by omega) ?_ | with_reducible refine jM rfl ?_ | refine jM (by assumption) ?_ | refine jN (by assumption) ?_ | refine jM (by decide) ?_ | refine jN (by decide) ?_) | refine jF (ptr_ok tblOk rfl rfl) ?_ | refine jO (fun _ => by kernel_rfl) ?_ | refine jF (by decide) ?_)
    refine ⟨?_, hS⟩
    refine congrArg Str ?_
    obtain ⟨i, rfl⟩ : ∃ i : Fin 100, i.val = n := ⟨⟨n, hn⟩, rfl⟩
    clear hS hn
    revert h i
    decide +kernel
theorem Itoa_spec {w : World} (n : Nat) (hn : n < 100) : Cl Tryz.prog f_strconv_Itoa [.int .i64 n] w fun v w' => v = Str (digB n) ∧ St w [] [] w' := by
  have hS := St.start w
  refine en_strconv_Itoa rfl ?_
  repeat (first | refine SemW.run tblOk ?_ | refine jA (by omega) ?_ | refine jB (by omega) ?_ | refine jC (by omega) ?_ | refine jD (by omega) ?_ | refine jE rfl ?_ | refine jF (by omega) ?_ | (refine jG ?_; first | with_reducible (first | refine jH ?_ | refine jI ?_ | refine jJ ?_ | refine jK ?_ | refine jL ?_) | refine jM (by omega) ?_ | refine jN (by omega) ?_ | with_reducible refine jM rfl ?_ | refine jM (by assumption) ?_ | refine jN (by assumption) ?_ | refine jM (by decide) ?_ | refine jN (by decide) ?_) | refine jF (ptr_ok tblOk rfl rfl) ?_ | refine jO (fun _ => by kernel_rfl) ?_ | refine jF (by decide) ?_)
  refine Cl.mono (P := Tryz.prog) (R := fun v w' => v = Str (digB n) ∧ St w [] [] w') ?_ ?_
  · refine en_internal_strconv_Itoa rfl ?_
    repeat (first | refine SemW.run tblOk ?_ | refine jA (by omega) ?_ | refine jB (by omega) ?_ | refine jC (by omega) ?_ | refine jD (by omega) ?_ | refine jE rfl ?_ | refine jF (by omega) ?_ | (refine jG ?_; first | with_reducible (first | refine jH ?_ | refine jI ?_ | refine jJ ?_ | refine jK ?_ | refine jL ?_) | refine jM (by omega) ?_ | refine jN (by omega) ?_ | with_reducible refine jM rfl ?_ | refine jM (by assumption) ?_ | refine jN (by assumption) ?_ | refine jM (by decide) ?_ | refine jN (by decide) ?_) | refine jF (ptr_ok tblOk rfl rfl) ?_ | refine jO (fun _ => by kernel_rfl) ?_ | refine jF (by decide) ?_)
    refine Cl.mono (P := Tryz.prog) (R := fun v w' => v = Str (digB n) ∧ St w [] [] w') ?_ ?_
    · refine en_internal_strconv_FormatInt rfl ?_
      repeat (first | refine SemW.run tblOk ?_ | refine jA (by omega) ?_ | refine jB (by omega) ?_ | refine jC (by omega) ?_ | refine jD (by omega) ?_ | refine jE rfl ?_ | refine jF (by omega) ?_ | (refine jG ?_; first | with_reducible (first | refine jH ?_ | refine jI ?_ | refine jJ ?_ | refine jK ?_ | refine jL ?_) | refine jM (by omega) ?_ | refine jN (by omega) ?_ | with_reducible refine jM rfl ?_ | refine jM (by assumption) ?_ | refine jN (by assumption) ?_ | refine jM (by decide) ?_ | refine jN (by decide) ?_) | refine jF (ptr_ok tblOk rfl rfl) ?_ | refine jO (fun _ => by kernel_rfl) ?_ | refine jF (by decide) ?_)
      refine Cl.mono (small_spec n hn) ?_
      rintro _ w1 ⟨rfl, hS⟩
      repeat (first | refine SemW.run tblOk ?_ | refine jA (by omega) ?_ | refine jB (by omega) ?_ | refine jC (by omega) ?_ | refine jD (by omega) ?_ | refine jE rfl ?_ | refine jF (by omega) ?_ | (refine jG ?_; first | with_reducible (first | refine jH ?_ | refine jI ?_ | refine jJ ?_ | refine jK ?_ | refine jL ?_) | refine jM (by omega) ?_ | refine jN (by omega) ?_ | with_reducible refine jM rfl ?_ | refine jM (by assumption) ?_ | refine jN (by assumption) ?_ | refine jM (by decide) ?_ | refine jN (by decide) ?_) | refine jF (ptr_ok tblOk rfl rfl) ?_ | refine jO (fun _ => by kernel_rfl) ?_ | refine jF (by decide) ?_)
      exact ⟨rfl, hS⟩
    · rintro _ w1 ⟨rfl, hS⟩
      repeat (first | refine SemW.run tblOk ?_ | refine jA (by omega) ?_ | refine jB (by omega) ?_ | refine jC (by omega) ?_ | refine jD (by omega) ?_ | refine jE rfl ?_ | refine jF (by omega) ?_ | (refine jG ?_; first | with_reducible (first | refine jH ?_ | refine jI ?_ | refine jJ ?_ | refine jK ?_ | refine jL ?_) | refine jM (by omega) ?_ | refine jN (by omega) ?_ | with_reducible refine jM rfl ?_ | refine jM (by assumption) ?_ | refine jN (by assumption) ?_ | refine jM (by decide) ?_ | refine jN (by decide) ?_) | refine jF (ptr_ok tblOk rfl rfl) ?_ | refine jO (fun _ => by kernel_rfl) ?_ | refine jF (by decide) ?_)
      exact ⟨rfl, hS⟩
  · rintro _ w1 ⟨rfl, hS⟩
    repeat (first | refine SemW.run tblOk ?_ | refine jA (by omega) ?_ | refine jB (by omega) ?_ | refine jC (by omega) ?_ | refine jD (by omega) ?_ | refine jE rfl ?_ | refine jF (by omega) ?_ | (refine jG ?_; first | with_reducible (first | refine jH ?_ | refine jI ?_ | refine jJ ?_ | refine jK ?_ | refine jL ?_) | refine jM (by omega) ?_ | refine jN (by omega) ?_ | with_reducible refine jM rfl ?_ | refine jM (by assumption) ?_ | refine jN (by assumption) ?_ | refine jM (by decide) ?_ | refine jN (by decide) ?_) | refine jF (ptr_ok tblOk rfl rfl) ?_ | refine jO (fun _ => by kernel_rfl) ?_ | refine jF (by decide) ?_)
    exact ⟨rfl, hS⟩
end Go.Proofs.YthpmmfapolcaiaaGreatDoor

/- cabin.Label. -/
namespace Go.Proofs.YthpmmfapolcaiaaGreatDoor
open Go Go.Eng Go.Proofs

theorem rune_lt (c : Nat) (h : c < 128) : Utf8.encode (c : Int) = ⟨⟨[UInt8.ofNat c]⟩⟩ := by
  have hv : Utf8.valid (c : Int) = true := by unfold Utf8.valid; simp; omega
  unfold Utf8.encode
  simp only [hv, if_true]
  rw [if_pos (by simpa using h)]
  rfl
theorem runeStr {P : Program} {T0 : Tbl} (hT : TOk P T0) {s d : TypeId} {i id : TI} (hi : tf T0 s = some i) (hid : tf T0 d = some id) (hkd : id.k = .str) {C : World → Prop} {k : IntKind} {c : Nat} (hc : c < 128) {K : Value → Prop} (hK : K (Str [UInt8.ofNat c])) :
    RdG P (convert s d (.int k c)) C K := by
  refine ⟨⟨_, fun w _ => ?_, hK⟩⟩
  obtain ⟨ds, hds⟩ := (hT _ _ hi).some
  have hd := und_of hT hid; rw [hkd] at hd
  rw [run_convert_int_string w s d k c (by rw [hds]; rfl) hd, rune_lt c hc]
theorem between_spec {w : World} (n lo hi : Int) : Cl Tryz.prog f_cabin_between [.int .i64 n, .int .i64 lo, .int .i64 hi] w fun v w' => v = .bool (decide (lo ≤ n) && decide (n ≤ hi)) ∧ St w [] [] w' := by
  have hS := St.start w
  refine en_cabin_between rfl ?_
  by_cases h1 : lo ≤ n
  · repeat (first | refine SemW.run tblOk ?_ | refine jA (by omega) ?_ | refine jB (by omega) ?_ | refine jC (by omega) ?_ | refine jD (by omega) ?_ | refine jE rfl ?_ | refine jF (by omega) ?_ | (refine jG ?_; first | with_reducible (first | refine jH ?_ | refine jI ?_ | refine jJ ?_ | refine jK ?_ | refine jL ?_) | refine jM (by omega) ?_ | refine jN (by omega) ?_ | with_reducible refine jM rfl ?_ | refine jM (by assumption) ?_ | refine jN (by assumption) ?_ | refine jM (by decide) ?_ | refine jN (by decide) ?_) | refine jF (ptr_ok tblOk rfl rfl) ?_ | refine jO (fun _ => by kernel_rfl) ?_ | refine jF (by decide) ?_)
    rw [decide_eq_true h1]
    exact ⟨rfl, hS⟩
  · repeat (first | refine SemW.run tblOk ?_ | refine jA (by omega) ?_ | refine jB (by omega) ?_ | refine jC (by omega) ?_ | refine jD (by omega) ?_ | refine jE rfl ?_ | refine jF (by omega) ?_ | (refine jG ?_; first | with_reducible (first | refine jH ?_ | refine jI ?_ | refine jJ ?_ | refine jK ?_ | refine jL ?_) | refine jM (by omega) ?_ | refine jN (by omega) ?_ | with_reducible refine jM rfl ?_ | refine jM (by assumption) ?_ | refine jN (by assumption) ?_ | refine jM (by decide) ?_ | refine jN (by decide) ?_) | refine jF (ptr_ok tblOk rfl rfl) ?_ | refine jO (fun _ => by kernel_rfl) ?_ | refine jF (by decide) ?_)
    rw [decide_eq_false h1]
    exact ⟨rfl, hS⟩
def seatV (num : Int) (c : Nat) : Value := .agg ⟨[.int .i64 num, .int .u8 c]⟩
theorem Label_spec {w : World} (num : Int) (c : Nat) (hc : c < 256) : Cl Tryz.prog f_cabin_Label [seatV num c] w fun v w' => v = Str (labelB num c) ∧ St w [] [] w' := by
  have hS := St.start w
  refine en_cabin_Label rfl ?_
  unfold seatV
  repeat (first | refine SemW.run tblOk ?_ | refine jA (by omega) ?_ | refine jB (by omega) ?_ | refine jC (by omega) ?_ | refine jD (by omega) ?_ | refine jE rfl ?_ | refine jF (by omega) ?_ | (refine jG ?_; first | with_reducible (first | refine jH ?_ | refine jI ?_ | refine jJ ?_ | refine jK ?_ | refine jL ?_) | refine jM (by omega) ?_ | refine jN (by omega) ?_ | with_reducible refine jM rfl ?_ | refine jM (by assumption) ?_ | refine jN (by assumption) ?_ | refine jM (by decide) ?_ | refine jN (by decide) ?_) | refine jF (ptr_ok tblOk rfl rfl) ?_ | refine jO (fun _ => by kernel_rfl) ?_ | refine jF (by decide) ?_)
  refine hS.al ?_
  intro b w1 _ hS
  have hS : St w [] ((b, .cells ⟨[.int .i64 num, .int .u8 c]⟩ T_api_Seat (0, 0)) :: []) _ := hS
  repeat (first | refine SemW.run tblOk ?_ | refine jA (by omega) ?_ | refine jB (by omega) ?_ | refine jC (by omega) ?_ | refine jD (by omega) ?_ | refine jE rfl ?_ | refine jF (by omega) ?_ | (refine jG ?_; first | with_reducible (first | refine jH ?_ | refine jI ?_ | refine jJ ?_ | refine jK ?_ | refine jL ?_) | refine jM (by omega) ?_ | refine jN (by omega) ?_ | with_reducible refine jM rfl ?_ | refine jM (by assumption) ?_ | refine jN (by assumption) ?_ | refine jM (by decide) ?_ | refine jN (by decide) ?_) | refine jF (ptr_ok tblOk rfl rfl) ?_ | refine jO (fun _ => by kernel_rfl) ?_ | refine jF (by decide) ?_ | refine hS.ld rfl ?_ | refine hS.ldn rfl ?_ | (refine hS.st rfl rfl ?_; intro _ hS))
  refine Cl.mono (between_spec num 1 99) ?_
  rintro _ w2 ⟨rfl, hS'⟩
  have hS := hS.call0 hS'
  by_cases hb : 1 ≤ num ∧ num ≤ 99
  · have hb2 : (decide (1 ≤ num) && decide (num ≤ 99)) = true := by simp [hb.1, hb.2]
    rw [hb2]
    by_cases h1 : c < 65
    · repeat (first | refine SemW.run tblOk ?_ | refine jA (by omega) ?_ | refine jB (by omega) ?_ | refine jC (by omega) ?_ | refine jD (by omega) ?_ | refine jE rfl ?_ | refine jF (by omega) ?_ | (refine jG ?_; first | with_reducible (first | refine jH ?_ | refine jI ?_ | refine jJ ?_ | refine jK ?_ | refine jL ?_) | refine jM (by omega) ?_ | refine jN (by omega) ?_ | with_reducible refine jM rfl ?_ | refine jM (by assumption) ?_ | refine jN (by assumption) ?_ | refine jM (by decide) ?_ | refine jN (by decide) ?_) | refine jF (ptr_ok tblOk rfl rfl) ?_ | refine jO (fun _ => by kernel_rfl) ?_ | refine jF (by decide) ?_ | refine hS.ld rfl ?_ | refine hS.ldn rfl ?_ | (refine hS.st rfl rfl ?_; intro _ hS))
      have : labelB num c = [45] := by unfold labelB; rw [if_neg]; rw [seatOk_iff]; omega
      rw [this]
      exact ⟨rfl, hS.nil⟩
    · by_cases h2 : 90 < c
      · repeat (first | refine SemW.run tblOk ?_ | refine jA (by omega) ?_ | refine jB (by omega) ?_ | refine jC (by omega) ?_ | refine jD (by omega) ?_ | refine jE rfl ?_ | refine jF (by omega) ?_ | (refine jG ?_; first | with_reducible (first | refine jH ?_ | refine jI ?_ | refine jJ ?_ | refine jK ?_ | refine jL ?_) | refine jM (by omega) ?_ | refine jN (by omega) ?_ | with_reducible refine jM rfl ?_ | refine jM (by assumption) ?_ | refine jN (by assumption) ?_ | refine jM (by decide) ?_ | refine jN (by decide) ?_) | refine jF (ptr_ok tblOk rfl rfl) ?_ | refine jO (fun _ => by kernel_rfl) ?_ | refine jF (by decide) ?_ | refine hS.ld rfl ?_ | refine hS.ldn rfl ?_ | (refine hS.st rfl rfl ?_; intro _ hS))
        have : labelB num c = [45] := by unfold labelB; rw [if_neg]; rw [seatOk_iff]; omega
        rw [this]
        exact ⟨rfl, hS.nil⟩
      · have hl : labelB num c = digB num.toNat ++ [UInt8.ofNat c] := by unfold labelB; rw [if_pos]; rw [seatOk_iff]; omega
        obtain ⟨n, rfl⟩ := Int.eq_ofNat_of_zero_le (show 0 ≤ num by omega)
        repeat (first | refine SemW.run tblOk ?_ | refine jA (by omega) ?_ | refine jB (by omega) ?_ | refine jC (by omega) ?_ | refine jD (by omega) ?_ | refine jE rfl ?_ | refine jF (by omega) ?_ | (refine jG ?_; first | with_reducible (first | refine jH ?_ | refine jI ?_ | refine jJ ?_ | refine jK ?_ | refine jL ?_) | refine jM (by omega) ?_ | refine jN (by omega) ?_ | with_reducible refine jM rfl ?_ | refine jM (by assumption) ?_ | refine jN (by assumption) ?_ | refine jM (by decide) ?_ | refine jN (by decide) ?_) | refine jF (ptr_ok tblOk rfl rfl) ?_ | refine jO (fun _ => by kernel_rfl) ?_ | refine jF (by decide) ?_ | refine hS.ld rfl ?_ | refine hS.ldn rfl ?_ | (refine hS.st rfl rfl ?_; intro _ hS))
        refine SemW.draw tblOk mixed (fun w' => St w [] ((b, .cells ⟨[.int .i64 (n : Nat), .int .u8 c]⟩ T_api_Seat (0, 0)) :: []) w') [] [0, 1, 3, 4, 5, 6, 2, 7, 8] (by kernel_rfl) hS.drew ?_
        have hS := hS.drew
        repeat (first | refine SemW.run tblOk ?_ | refine jA (by omega) ?_ | refine jB (by omega) ?_ | refine jC (by omega) ?_ | refine jD (by omega) ?_ | refine jE rfl ?_ | refine jF (by omega) ?_ | (refine jG ?_; first | with_reducible (first | refine jH ?_ | refine jI ?_ | refine jJ ?_ | refine jK ?_ | refine jL ?_) | refine jM (by omega) ?_ | refine jN (by omega) ?_ | with_reducible refine jM rfl ?_ | refine jM (by assumption) ?_ | refine jN (by assumption) ?_ | refine jM (by decide) ?_ | refine jN (by decide) ?_) | refine jF (ptr_ok tblOk rfl rfl) ?_ | refine jO (fun _ => by kernel_rfl) ?_ | refine jF (by decide) ?_ | refine hS.ldC rfl ?_ | refine hS.ldnC rfl ?_)
        have hw : IntKind.i32.wrap (c : Int) = (c : Int) := by unfold IntKind.wrap; simp [IntKind.signed, IntKind.bits]; omega
        rw [hw]
        repeat (first | refine SemW.run tblOk ?_ | refine jA (by omega) ?_ | refine jB (by omega) ?_ | refine jC (by omega) ?_ | refine jD (by omega) ?_ | refine jE rfl ?_ | refine jF (by omega) ?_ | (refine jG ?_; first | with_reducible (first | refine jH ?_ | refine jI ?_ | refine jJ ?_ | refine jK ?_ | refine jL ?_) | refine jM (by omega) ?_ | refine jN (by omega) ?_ | with_reducible refine jM rfl ?_ | refine jM (by assumption) ?_ | refine jN (by assumption) ?_ | refine jM (by decide) ?_ | refine jN (by decide) ?_) | refine jF (ptr_ok tblOk rfl rfl) ?_ | refine jO (fun _ => by kernel_rfl) ?_ | refine jF (by decide) ?_ | refine hS.ldC rfl ?_ | refine hS.ldnC rfl ?_)
        refine runeStr (s := T_int32) (d := T_string) (c := c) tblOk rfl rfl rfl (by omega) ?_
        repeat (first | refine SemW.run tblOk ?_ | refine jA (by omega) ?_ | refine jB (by omega) ?_ | refine jC (by omega) ?_ | refine jD (by omega) ?_ | refine jE rfl ?_ | refine jF (by omega) ?_ | (refine jG ?_; first | with_reducible (first | refine jH ?_ | refine jI ?_ | refine jJ ?_ | refine jK ?_ | refine jL ?_) | refine jM (by omega) ?_ | refine jN (by omega) ?_ | with_reducible refine jM rfl ?_ | refine jM (by assumption) ?_ | refine jN (by assumption) ?_ | refine jM (by decide) ?_ | refine jN (by decide) ?_) | refine jF (ptr_ok tblOk rfl rfl) ?_ | refine jO (fun _ => by kernel_rfl) ?_ | refine jF (by decide) ?_ | refine hS.ldC rfl ?_ | refine hS.ldnC rfl ?_)
        refine Cl.mono (Itoa_spec n (by omega)) ?_
        rintro _ w3 ⟨rfl, hS'⟩
        have hS := hS.call0 hS'
        refine Chk.mk hS ?_
        repeat (first | refine SemW.run tblOk ?_ | refine jA (by omega) ?_ | refine jB (by omega) ?_ | refine jC (by omega) ?_ | refine jD (by omega) ?_ | refine jE rfl ?_ | refine jF (by omega) ?_ | (refine jG ?_; first | with_reducible (first | refine jH ?_ | refine jI ?_ | refine jJ ?_ | refine jK ?_ | refine jL ?_) | refine jM (by omega) ?_ | refine jN (by omega) ?_ | with_reducible refine jM rfl ?_ | refine jM (by assumption) ?_ | refine jN (by assumption) ?_ | refine jM (by decide) ?_ | refine jN (by decide) ?_) | refine jF (ptr_ok tblOk rfl rfl) ?_ | refine jO (fun _ => by kernel_rfl) ?_ | refine jF (by decide) ?_ | refine hS.ldC rfl ?_ | refine hS.ldnC rfl ?_)
        refine Chk.mk (by have : (digB n).length ≤ 2 := by unfold digB; split <;> simp
                          simp only [List.length_singleton]; omega) ?_
        repeat (first | refine SemW.run tblOk ?_ | refine jA (by omega) ?_ | refine jB (by omega) ?_ | refine jC (by omega) ?_ | refine jD (by omega) ?_ | refine jE rfl ?_ | refine jF (by omega) ?_ | (refine jG ?_; first | with_reducible (first | refine jH ?_ | refine jI ?_ | refine jJ ?_ | refine jK ?_ | refine jL ?_) | refine jM (by omega) ?_ | refine jN (by omega) ?_ | with_reducible refine jM rfl ?_ | refine jM (by assumption) ?_ | refine jN (by assumption) ?_ | refine jM (by decide) ?_ | refine jN (by decide) ?_) | refine jF (ptr_ok tblOk rfl rfl) ?_ | refine jO (fun _ => by kernel_rfl) ?_ | refine jF (by decide) ?_ | refine hS.ldC rfl ?_ | refine hS.ldnC rfl ?_)
        rw [hl]
        exact ⟨rfl, hS.nil⟩
  · have : labelB num c = [45] := by unfold labelB; rw [if_neg]; rw [seatOk_iff]; omega
    rw [this]
    have hb' : (decide (1 ≤ num) && decide (num ≤ 99)) = false := by simp; omega
    rw [hb']
    repeat (first | refine SemW.run tblOk ?_ | refine jA (by omega) ?_ | refine jB (by omega) ?_ | refine jC (by omega) ?_ | refine jD (by omega) ?_ | refine jE rfl ?_ | refine jF (by omega) ?_ | (refine jG ?_; first | with_reducible (first | refine jH ?_ | refine jI ?_ | refine jJ ?_ | refine jK ?_ | refine jL ?_) | refine jM (by omega) ?_ | refine jN (by omega) ?_ | with_reducible refine jM rfl ?_ | refine jM (by assumption) ?_ | refine jN (by assumption) ?_ | refine jM (by decide) ?_ | refine jN (by decide) ?_) | refine jF (ptr_ok tblOk rfl rfl) ?_ | refine jO (fun _ => by kernel_rfl) ?_ | refine jF (by decide) ?_ | refine hS.ld rfl ?_ | refine hS.ldn rfl ?_ | (refine hS.st rfl rfl ?_; intro _ hS))
    exact ⟨rfl, hS.nil⟩
end Go.Proofs.YthpmmfapolcaiaaGreatDoor

/- Comparing an error with nil. -/
namespace Go.Eng
open Go
theorem neqHeld {P : Program} {T0 : Tbl} (hT : TOk P T0) {t : TypeId} {i : TI} (hi : tf T0 t = some i) (hk : i.k = .iface) {x y : Operand} {u : TypeId} {v : Value} {K : Value → Prop} (hK : K (.bool true)) :
    PureRun P (do eqGuard .neq t x y (.iface u v) .nilIface; binOp .neq t (.iface u v) .nilIface) K := by
  have h := und_of hT hi; rw [hk] at h
  obtain ⟨ms, h⟩ := h
  have h2 : P.underlying t = some (.interface (P.methodsAt t)) := by simp [Program.methodsAt, h]
  refine ⟨_, fun w => ?_, hK⟩
  rw [Sem.run_bind, run_eqGuard_of P .neq t x y _ _ w (by intro c h; cases h) (by intro h; cases h)]
  exact run_neq_held_nil w t u v h2
theorem neqNilNil {P : Program} {T0 : Tbl} (hT : TOk P T0) {t : TypeId} {i : TI} (hi : tf T0 t = some i) (hk : i.k = .iface) {x : Operand} {c : Value} {K : Value → Prop} (hK : K (.bool false)) :
    PureRun P (do eqGuard .neq t x (.const c) .nilIface .nilIface; binOp .neq t .nilIface .nilIface) K := by
  have h := und_of hT hi; rw [hk] at h
  obtain ⟨ms, h⟩ := h
  have h2 : P.underlying t = some (.interface (P.methodsAt t)) := by simp [Program.methodsAt, h]
  refine ⟨_, fun w => ?_, hK⟩
  have h3 : (eqGuard .neq t x (.const c) .nilIface .nilIface).run P w = .ok () w := by simp [eqGuard]
  rw [Sem.run_bind, h3]
  exact run_neq_nil_nil w t h2
end Go.Eng

/- cabin.Parse; strings.CutPrefix. -/
namespace Go.Proofs.YthpmmfapolcaiaaGreatDoor
open Go Go.Eng Go.Proofs

/-- The seat of a text. -/
def parseB (s : Bytes) : Option (Int × Nat) := match s.getLast? with
  | none => none
  | some c => match Lib.atoiAll s.dropLast with
    | .ok n => if labelB n c.toNat = s then some (n, c.toNat) else none
    | _ => none
theorem atoi_dig : ∀ n : Fin 100, 1 ≤ n.val → Lib.atoiAll (digB n.val) = .ok (n.val : Int) := by decide +kernel
theorem parseB_label {n : Int} {c : Nat} (h : seatOk n c = true) : parseB (labelB n c) = some (n, c) := by
  obtain ⟨h1, h2, h3, h4⟩ := seatOk_iff.1 h
  have e : labelB n c = digB n.toNat ++ [UInt8.ofNat c] := by unfold labelB; rw [if_pos h]
  have hc : (UInt8.ofNat c).toNat = c := by simp; omega
  have ha := atoi_dig ⟨n.toNat, by omega⟩ (by show 1 ≤ n.toNat; omega)
  simp only at ha
  have hn : ((n.toNat : Nat) : Int) = n := by omega
  rw [hn] at ha
  have hgl : (labelB n c).getLast? = some (UInt8.ofNat c) := by rw [e]; simp
  have hdl : (labelB n c).dropLast = digB n.toNat := by rw [e]; simp
  unfold parseB
  rw [hgl]
  simp only
  rw [hdl, ha]
  simp only
  rw [hc, if_pos rfl]
theorem parseB_some {s : Bytes} {n : Int} {c : Nat} (h : parseB s = some (n, c)) : seatOk n c = true ∧ labelB n c = s := by
  unfold parseB at h
  cases hl : s.getLast? with
  | none => rw [hl] at h; cases h
  | some x =>
    rw [hl] at h
    simp only at h
    cases ha : Lib.atoiAll s.dropLast
    · rename_i m
      rw [ha] at h
      simp only at h
      split at h
      · rename_i he
        simp only [Option.some.injEq, Prod.mk.injEq] at h
        obtain ⟨rfl, rfl⟩ := h
        refine ⟨?_, he⟩
        cases hs : seatOk m x.toNat with
        | true => rfl
        | false =>
          have : labelB m x.toNat = [45] := (labelB_dash _ _).2 hs
          rw [this] at he
          subst he
          cases ha
      · cases h
    · rw [ha] at h; cases h
    · rw [ha] at h; cases h
/-- What Parse answers. -/
def parseO (s : Bytes) : Int × Nat × Bool := match parseB s with
  | some (n, c) => (n, c, true)
  | none => (0, 0, false)
def seatAt (n : Int) (c : Nat) : Value := .agg ⟨[.int .i64 n, .int .u8 c]⟩
set_option maxHeartbeats 1000000 in
theorem Parse_spec {w : World} {s : Bytes} (hs : s.length ≤ 70368744177664) (hE : ErrVars w) :
    Cl Tryz.prog f_cabin_Parse [Str s] w fun v w' => v = .tuple ⟨[seatAt (parseO s).1 (parseO s).2.1, .bool (parseO s).2.2]⟩ ∧ St w [] [] w' := by
  have hS := St.start w
  refine en_cabin_Parse rfl ?_
  unfold seatAt parseO
  rcases List.eq_nil_or_concat s with rfl | ⟨s', c, rfl⟩
  · have hp : parseB [] = none := rfl
    rw [hp]
    repeat (first | refine SemW.run tblOk ?_ | refine jA (by omega) ?_ | refine jB (by omega) ?_ | refine jC (by omega) ?_ | refine jD (by omega) ?_ | refine jE rfl ?_ | refine jF (by omega) ?_ | (refine jG ?_; first | with_reducible (first | refine jH ?_ | refine jI ?_ | refine jJ ?_ | refine jK ?_ | refine jL ?_) | refine jM (by omega) ?_ | refine jN (by omega) ?_ | with_reducible refine jM rfl ?_ | refine jM (by assumption) ?_ | refine jN (by assumption) ?_ | refine jM (by decide) ?_ | refine jN (by decide) ?_) | refine jF (ptr_ok tblOk rfl rfl) ?_ | refine jO (fun _ => by kernel_rfl) ?_ | refine jF (by decide) ?_)
    refine hS.al ?_
    intro b w1 _ hS
    repeat (first | refine SemW.run tblOk ?_ | refine jA (by omega) ?_ | refine jB (by omega) ?_ | refine jC (by omega) ?_ | refine jD (by omega) ?_ | refine jE rfl ?_ | refine jF (by omega) ?_ | (refine jG ?_; first | with_reducible (first | refine jH ?_ | refine jI ?_ | refine jJ ?_ | refine jK ?_ | refine jL ?_) | refine jM (by omega) ?_ | refine jN (by omega) ?_ | with_reducible refine jM rfl ?_ | refine jM (by assumption) ?_ | refine jN (by assumption) ?_ | refine jM (by decide) ?_ | refine jN (by decide) ?_) | refine jF (ptr_ok tblOk rfl rfl) ?_ | refine jO (fun _ => by kernel_rfl) ?_ | refine jF (by decide) ?_ | refine hS.ld rfl ?_ | refine hS.ldn rfl ?_ | (refine hS.st rfl rfl ?_; intro _ hS))
    exact ⟨rfl, hS.nil⟩
  · have hsl : (s' ++ [c]).length = s'.length + 1 := by simp
    have htk : (s' ++ [c]).take s'.length = s' := by simp
    have hgl : (s' ++ [c]).getLast? = some c := by simp
    have hdl : (s' ++ [c]).dropLast = s' := by simp
    have hne : ¬ (s' ++ [c]) = [] := by simp
    have hcc : (s' ++ [c]).getD s'.length 0 = c := by simp
    rw [List.concat_eq_append] at *
    obtain ⟨s, hse⟩ : ∃ s, s = s' ++ [c] := ⟨_, rfl⟩
    rw [← hse] at hs hsl htk hgl hdl hne hcc ⊢
    have hcl := c.toNat_lt
    repeat (first | refine SemW.run tblOk ?_ | refine jA (by omega) ?_ | refine jB (by omega) ?_ | refine jC (by omega) ?_ | refine jD (by omega) ?_ | refine jE rfl ?_ | refine jF (by omega) ?_ | (refine jG ?_; first | with_reducible (first | refine jH ?_ | refine jI ?_ | refine jJ ?_ | refine jK ?_ | refine jL ?_) | refine jM (by omega) ?_ | refine jN (by omega) ?_ | with_reducible refine jM rfl ?_ | refine jM (by assumption) ?_ | refine jN (by assumption) ?_ | refine jM (by decide) ?_ | refine jN (by decide) ?_) | refine jF (ptr_ok tblOk rfl rfl) ?_ | refine jO (fun _ => by kernel_rfl) ?_ | refine jF (by decide) ?_)
    refine hS.al ?_
    intro b w1 _ hS
    have hE1 := hE.keep hS (by simp) (by simp)
    repeat (first | refine SemW.run tblOk ?_ | refine jA (by omega) ?_ | refine jB (by omega) ?_ | refine jC (by omega) ?_ | refine jD (by omega) ?_ | refine jE rfl ?_ | refine jF (by omega) ?_ | (refine jG ?_; first | with_reducible (first | refine jH ?_ | refine jI ?_ | refine jJ ?_ | refine jK ?_ | refine jL ?_) | refine jM (by omega) ?_ | refine jN (by omega) ?_ | with_reducible refine jM rfl ?_ | refine jM (by assumption) ?_ | refine jN (by assumption) ?_ | refine jM (by decide) ?_ | refine jN (by decide) ?_) | refine jF (ptr_ok tblOk rfl rfl) ?_ | refine jO (fun _ => by kernel_rfl) ?_ | refine jF (by decide) ?_ | refine hS.ld rfl ?_ | refine hS.ldn rfl ?_ | (refine hS.st rfl rfl ?_; intro _ hS))
    have e1 : ((s.length : Int) - 1).toNat = s'.length := by omega
    rw [e1, htk]
    refine Cl.mono (Atoi_spec (s := s') (by omega) hE1) ?_
    rintro _ w2 ⟨hS', n, ev, rfl, hev⟩
    have hS := hS.call0 hS'
    have hpb : parseB s = match Lib.atoiAll s' with
        | .ok n => if labelB n c.toNat = s then some (n, c.toNat) else none
        | _ => none := by unfold parseB; rw [hgl]; simp only; rw [hdl]
    rcases hev with ⟨ha, rfl⟩ | ⟨ha, -, t, q, rfl⟩
    · rw [ha] at hpb
      simp only at hpb
      have hLb := Label_spec (w := w2) n c.toNat hcl
      by_cases hlab : labelB n c.toNat = s
      · rw [if_pos hlab] at hpb
        rw [hpb]
        repeat (first | refine SemW.run tblOk ?_ | refine jA (by omega) ?_ | refine jB (by omega) ?_ | refine jC (by omega) ?_ | refine jD (by omega) ?_ | refine jE rfl ?_ | refine jF (by omega) ?_ | (refine jG ?_; first | with_reducible (first | refine jH ?_ | refine jI ?_ | refine jJ ?_ | refine jK ?_ | refine jL ?_) | refine jM (by omega) ?_ | refine jN (by omega) ?_ | with_reducible refine jM rfl ?_ | refine jM (by assumption) ?_ | refine jN (by assumption) ?_ | refine jM (by decide) ?_ | refine jN (by decide) ?_) | refine jF (ptr_ok tblOk rfl rfl) ?_ | refine jO (fun _ => by kernel_rfl) ?_ | refine jF (by decide) ?_ | refine hS.ld rfl ?_ | refine hS.ldn rfl ?_ | (refine hS.st rfl rfl ?_; intro _ hS))
        rw [e1, hcc]
        repeat (first | refine SemW.run tblOk ?_ | refine jA (by omega) ?_ | refine jB (by omega) ?_ | refine jC (by omega) ?_ | refine jD (by omega) ?_ | refine jE rfl ?_ | refine jF (by omega) ?_ | (refine jG ?_; first | with_reducible (first | refine jH ?_ | refine jI ?_ | refine jJ ?_ | refine jK ?_ | refine jL ?_) | refine jM (by omega) ?_ | refine jN (by omega) ?_ | with_reducible refine jM rfl ?_ | refine jM (by assumption) ?_ | refine jN (by assumption) ?_ | refine jM (by decide) ?_ | refine jN (by decide) ?_) | refine jF (ptr_ok tblOk rfl rfl) ?_ | refine jO (fun _ => by kernel_rfl) ?_ | refine jF (by decide) ?_ | refine hS.ld rfl ?_ | refine hS.ldn rfl ?_ | (refine hS.st rfl rfl ?_; intro _ hS))
        refine hS.al ?_
        intro b2 w3 _ hS
        repeat (first | refine SemW.run tblOk ?_ | refine jA (by omega) ?_ | refine jB (by omega) ?_ | refine jC (by omega) ?_ | refine jD (by omega) ?_ | refine jE rfl ?_ | refine jF (by omega) ?_ | (refine jG ?_; first | with_reducible (first | refine jH ?_ | refine jI ?_ | refine jJ ?_ | refine jK ?_ | refine jL ?_) | refine jM (by omega) ?_ | refine jN (by omega) ?_ | with_reducible refine jM rfl ?_ | refine jM (by assumption) ?_ | refine jN (by assumption) ?_ | refine jM (by decide) ?_ | refine jN (by decide) ?_) | refine jF (ptr_ok tblOk rfl rfl) ?_ | refine jO (fun _ => by kernel_rfl) ?_ | refine jF (by decide) ?_ | refine hS.ld rfl ?_ | refine hS.ldn rfl ?_ | (refine hS.st rfl rfl ?_; intro _ hS))
        refine neqNilNil tblOk rfl rfl ?_
        repeat (first | refine SemW.run tblOk ?_ | refine jA (by omega) ?_ | refine jB (by omega) ?_ | refine jC (by omega) ?_ | refine jD (by omega) ?_ | refine jE rfl ?_ | refine jF (by omega) ?_ | (refine jG ?_; first | with_reducible (first | refine jH ?_ | refine jI ?_ | refine jJ ?_ | refine jK ?_ | refine jL ?_) | refine jM (by omega) ?_ | refine jN (by omega) ?_ | with_reducible refine jM rfl ?_ | refine jM (by assumption) ?_ | refine jN (by assumption) ?_ | refine jM (by decide) ?_ | refine jN (by decide) ?_) | refine jF (ptr_ok tblOk rfl rfl) ?_ | refine jO (fun _ => by kernel_rfl) ?_ | refine jF (by decide) ?_ | refine hS.ld rfl ?_ | refine hS.ldn rfl ?_ | (refine hS.st rfl rfl ?_; intro _ hS))
        refine Cl.mono (Label_spec n c.toNat hcl) ?_
        rintro _ w4 ⟨rfl, hS'⟩
        have hS := hS.call0 hS'
        rw [hlab]
        repeat (first | refine SemW.run tblOk ?_ | refine jA (by omega) ?_ | refine jB (by omega) ?_ | refine jC (by omega) ?_ | refine jD (by omega) ?_ | refine jE rfl ?_ | refine jF (by omega) ?_ | (refine jG ?_; first | with_reducible (first | refine jH ?_ | refine jI ?_ | refine jJ ?_ | refine jK ?_ | refine jL ?_) | refine jM (by omega) ?_ | refine jN (by omega) ?_ | with_reducible refine jM rfl ?_ | refine jM (by assumption) ?_ | refine jN (by assumption) ?_ | refine jM (by decide) ?_ | refine jN (by decide) ?_) | refine jF (ptr_ok tblOk rfl rfl) ?_ | refine jO (fun _ => by kernel_rfl) ?_ | refine jF (by decide) ?_ | refine hS.ld rfl ?_ | refine hS.ldn rfl ?_ | (refine hS.st rfl rfl ?_; intro _ hS))
        exact ⟨rfl, hS.nil⟩
      · rw [if_neg hlab] at hpb
        rw [hpb]
        repeat (first | refine SemW.run tblOk ?_ | refine jA (by omega) ?_ | refine jB (by omega) ?_ | refine jC (by omega) ?_ | refine jD (by omega) ?_ | refine jE rfl ?_ | refine jF (by omega) ?_ | (refine jG ?_; first | with_reducible (first | refine jH ?_ | refine jI ?_ | refine jJ ?_ | refine jK ?_ | refine jL ?_) | refine jM (by omega) ?_ | refine jN (by omega) ?_ | with_reducible refine jM rfl ?_ | refine jM (by assumption) ?_ | refine jN (by assumption) ?_ | refine jM (by decide) ?_ | refine jN (by decide) ?_) | refine jF (ptr_ok tblOk rfl rfl) ?_ | refine jO (fun _ => by kernel_rfl) ?_ | refine jF (by decide) ?_ | refine hS.ld rfl ?_ | refine hS.ldn rfl ?_ | (refine hS.st rfl rfl ?_; intro _ hS))
        rw [e1, hcc]
        repeat (first | refine SemW.run tblOk ?_ | refine jA (by omega) ?_ | refine jB (by omega) ?_ | refine jC (by omega) ?_ | refine jD (by omega) ?_ | refine jE rfl ?_ | refine jF (by omega) ?_ | (refine jG ?_; first | with_reducible (first | refine jH ?_ | refine jI ?_ | refine jJ ?_ | refine jK ?_ | refine jL ?_) | refine jM (by omega) ?_ | refine jN (by omega) ?_ | with_reducible refine jM rfl ?_ | refine jM (by assumption) ?_ | refine jN (by assumption) ?_ | refine jM (by decide) ?_ | refine jN (by decide) ?_) | refine jF (ptr_ok tblOk rfl rfl) ?_ | refine jO (fun _ => by kernel_rfl) ?_ | refine jF (by decide) ?_ | refine hS.ld rfl ?_ | refine hS.ldn rfl ?_ | (refine hS.st rfl rfl ?_; intro _ hS))
        refine hS.al ?_
        intro b2 w3 _ hS
        repeat (first | refine SemW.run tblOk ?_ | refine jA (by omega) ?_ | refine jB (by omega) ?_ | refine jC (by omega) ?_ | refine jD (by omega) ?_ | refine jE rfl ?_ | refine jF (by omega) ?_ | (refine jG ?_; first | with_reducible (first | refine jH ?_ | refine jI ?_ | refine jJ ?_ | refine jK ?_ | refine jL ?_) | refine jM (by omega) ?_ | refine jN (by omega) ?_ | with_reducible refine jM rfl ?_ | refine jM (by assumption) ?_ | refine jN (by assumption) ?_ | refine jM (by decide) ?_ | refine jN (by decide) ?_) | refine jF (ptr_ok tblOk rfl rfl) ?_ | refine jO (fun _ => by kernel_rfl) ?_ | refine jF (by decide) ?_ | refine hS.ld rfl ?_ | refine hS.ldn rfl ?_ | (refine hS.st rfl rfl ?_; intro _ hS))
        refine neqNilNil tblOk rfl rfl ?_
        repeat (first | refine SemW.run tblOk ?_ | refine jA (by omega) ?_ | refine jB (by omega) ?_ | refine jC (by omega) ?_ | refine jD (by omega) ?_ | refine jE rfl ?_ | refine jF (by omega) ?_ | (refine jG ?_; first | with_reducible (first | refine jH ?_ | refine jI ?_ | refine jJ ?_ | refine jK ?_ | refine jL ?_) | refine jM (by omega) ?_ | refine jN (by omega) ?_ | with_reducible refine jM rfl ?_ | refine jM (by assumption) ?_ | refine jN (by assumption) ?_ | refine jM (by decide) ?_ | refine jN (by decide) ?_) | refine jF (ptr_ok tblOk rfl rfl) ?_ | refine jO (fun _ => by kernel_rfl) ?_ | refine jF (by decide) ?_ | refine hS.ld rfl ?_ | refine hS.ldn rfl ?_ | (refine hS.st rfl rfl ?_; intro _ hS))
        refine Cl.mono (Label_spec n c.toNat hcl) ?_
        rintro _ w4 ⟨rfl, hS'⟩
        have hS := hS.call0 hS'
        repeat (first | refine SemW.run tblOk ?_ | refine jA (by omega) ?_ | refine jB (by omega) ?_ | refine jC (by omega) ?_ | refine jD (by omega) ?_ | refine jE rfl ?_ | refine jF (by omega) ?_ | (refine jG ?_; first | with_reducible (first | refine jH ?_ | refine jI ?_ | refine jJ ?_ | refine jK ?_ | refine jL ?_) | refine jM (by omega) ?_ | refine jN (by omega) ?_ | with_reducible refine jM rfl ?_ | refine jM (by assumption) ?_ | refine jN (by assumption) ?_ | refine jM (by decide) ?_ | refine jN (by decide) ?_) | refine jF (ptr_ok tblOk rfl rfl) ?_ | refine jO (fun _ => by kernel_rfl) ?_ | refine jF (by decide) ?_ | refine hS.ld rfl ?_ | refine hS.ldn rfl ?_ | (refine hS.st rfl rfl ?_; intro _ hS))
        exact ⟨rfl, hS.nil⟩
    · have hpn : parseB s = none := by
        rw [hpb]
        cases h : Lib.atoiAll s'
        · exact absurd h (ha _)
        · rfl
        · rfl
      rw [hpn]
      repeat (first | refine SemW.run tblOk ?_ | refine jA (by omega) ?_ | refine jB (by omega) ?_ | refine jC (by omega) ?_ | refine jD (by omega) ?_ | refine jE rfl ?_ | refine jF (by omega) ?_ | (refine jG ?_; first | with_reducible (first | refine jH ?_ | refine jI ?_ | refine jJ ?_ | refine jK ?_ | refine jL ?_) | refine jM (by omega) ?_ | refine jN (by omega) ?_ | with_reducible refine jM rfl ?_ | refine jM (by assumption) ?_ | refine jN (by assumption) ?_ | refine jM (by decide) ?_ | refine jN (by decide) ?_) | refine jF (ptr_ok tblOk rfl rfl) ?_ | refine jO (fun _ => by kernel_rfl) ?_ | refine jF (by decide) ?_ | refine hS.ld rfl ?_ | refine hS.ldn rfl ?_ | (refine hS.st rfl rfl ?_; intro _ hS))
      rw [e1, hcc]
      repeat (first | refine SemW.run tblOk ?_ | refine jA (by omega) ?_ | refine jB (by omega) ?_ | refine jC (by omega) ?_ | refine jD (by omega) ?_ | refine jE rfl ?_ | refine jF (by omega) ?_ | (refine jG ?_; first | with_reducible (first | refine jH ?_ | refine jI ?_ | refine jJ ?_ | refine jK ?_ | refine jL ?_) | refine jM (by omega) ?_ | refine jN (by omega) ?_ | with_reducible refine jM rfl ?_ | refine jM (by assumption) ?_ | refine jN (by assumption) ?_ | refine jM (by decide) ?_ | refine jN (by decide) ?_) | refine jF (ptr_ok tblOk rfl rfl) ?_ | refine jO (fun _ => by kernel_rfl) ?_ | refine jF (by decide) ?_ | refine hS.ld rfl ?_ | refine hS.ldn rfl ?_ | (refine hS.st rfl rfl ?_; intro _ hS))
      refine hS.al ?_
      intro b2 w3 _ hS
      repeat (first | refine SemW.run tblOk ?_ | refine jA (by omega) ?_ | refine jB (by omega) ?_ | refine jC (by omega) ?_ | refine jD (by omega) ?_ | refine jE rfl ?_ | refine jF (by omega) ?_ | (refine jG ?_; first | with_reducible (first | refine jH ?_ | refine jI ?_ | refine jJ ?_ | refine jK ?_ | refine jL ?_) | refine jM (by omega) ?_ | refine jN (by omega) ?_ | with_reducible refine jM rfl ?_ | refine jM (by assumption) ?_ | refine jN (by assumption) ?_ | refine jM (by decide) ?_ | refine jN (by decide) ?_) | refine jF (ptr_ok tblOk rfl rfl) ?_ | refine jO (fun _ => by kernel_rfl) ?_ | refine jF (by decide) ?_ | refine hS.ld rfl ?_ | refine hS.ldn rfl ?_ | (refine hS.st rfl rfl ?_; intro _ hS))
      refine neqHeld tblOk rfl rfl ?_
      repeat (first | refine SemW.run tblOk ?_ | refine jA (by omega) ?_ | refine jB (by omega) ?_ | refine jC (by omega) ?_ | refine jD (by omega) ?_ | refine jE rfl ?_ | refine jF (by omega) ?_ | (refine jG ?_; first | with_reducible (first | refine jH ?_ | refine jI ?_ | refine jJ ?_ | refine jK ?_ | refine jL ?_) | refine jM (by omega) ?_ | refine jN (by omega) ?_ | with_reducible refine jM rfl ?_ | refine jM (by assumption) ?_ | refine jN (by assumption) ?_ | refine jM (by decide) ?_ | refine jN (by decide) ?_) | refine jF (ptr_ok tblOk rfl rfl) ?_ | refine jO (fun _ => by kernel_rfl) ?_ | refine jF (by decide) ?_ | refine hS.ld rfl ?_ | refine hS.ldn rfl ?_ | (refine hS.st rfl rfl ?_; intro _ hS))
      exact ⟨rfl, hS.nil⟩
end Go.Proofs.YthpmmfapolcaiaaGreatDoor

/- Plain: rows and passengers read loosely. -/
namespace Go.Proofs.YthpmmfapolcaiaaGreatDoor
open Go Go.Eng Go.Proofs
/-- A row, read loosely. -/
def lRow (s : RB) : RowM × RB := tk (wInts 3 s) fun l s => tk (rbNum s) fun n s => tk (wText s) fun x s => (⟨l.getD 0 0, l.getD 1 0, l.getD 2 0, decide (n = 1), x⟩, s)
def lRows : Nat → RB × List RowM → RB × List RowM
  | 0, x => x
  | n + 1, (s, l) => if s.bad = true then (s, l) else lRows n ((lRow s).2, l ++ [(lRow s).1])
def lRowsT (t : Bytes) : RB × List RowM := lRows (rbNum ⟨t, false⟩).1 ((rbNum ⟨t, false⟩).2, [])
theorem lRow_ok (s : RB) : (lRow s).1.ok := ⟨getD_ok (wInts_ok 3 s) 0, getD_ok (wInts_ok 3 s) 1, getD_ok (wInts_ok 3 s) 2⟩
theorem lRows_ok : ∀ (n : Nat) (s : RB) (l : List RowM), (∀ f ∈ l, f.ok) → ∀ f ∈ (lRows n (s, l)).2, f.ok
  | 0, s, l, h => h
  | n + 1, s, l, h => by
    unfold lRows
    split
    · exact h
    · refine lRows_ok n _ _ fun f hf => ?_
      rcases List.mem_append.1 hf with hf | hf
      · exact h f hf
      · rw [List.mem_singleton] at hf; subst hf; exact lRow_ok s
/-- A passenger, read loosely; its id is not in these bytes. -/
def lPax (t : Bytes) (id : Int) : PaxM × RB := tk (wInts 6 ⟨t, false⟩) fun l s => tk (rbNum s) fun n s => tk (wText s) fun x s =>
  (⟨id, l.getD 0 0, l.getD 1 0, (bitsN 4 n).getD 0 false, (bitsN 4 n).getD 1 false, (bitsN 4 n).getD 2 false, (bitsN 4 n).getD 3 false, l.getD 2 0, l.getD 3 0, l.getD 4 0, l.getD 5 0, (parseO x).1, (parseO x).2.1⟩,
   ⟨s.t, s.bad || (!(parseO x).2.2 && decide (x ≠ []))⟩)
theorem parseO_ok (x : Bytes) : i64ok (parseO x).1 ∧ (parseO x).2.1 < 256 := by
  unfold parseO
  cases h : parseB x with
  | none => exact ⟨ok0, by decide⟩
  | some z =>
    obtain ⟨n, c⟩ := z
    obtain ⟨h1, -⟩ := parseB_some h
    obtain ⟨a1, a2, a3, a4⟩ := seatOk_iff.1 h1
    exact ⟨⟨by simp only; omega, by simp only; omega⟩, by simp only; omega⟩
theorem lPax_ok (t : Bytes) {id : Int} (h : i64ok id) : (lPax t id).1.ok :=
  ⟨h, getD_ok (wInts_ok 6 _) 0, getD_ok (wInts_ok 6 _) 1, getD_ok (wInts_ok 6 _) 2, getD_ok (wInts_ok 6 _) 3, getD_ok (wInts_ok 6 _) 4, getD_ok (wInts_ok 6 _) 5, (parseO_ok _).1, (parseO_ok _).2⟩
end Go.Proofs.YthpmmfapolcaiaaGreatDoor

/- Package rows: the reader. -/
namespace Go.Proofs.YthpmmfapolcaiaaGreatDoor
open Go Go.Eng Go.Proofs
abbrev rrC (rb : Nat) (bad : Bool) : Obj := .cells ⟨[ptr rb, .bool bad]⟩ T_rows_reader (0, 0)
/-- The reader's memory. -/
abbrev rrH (xr rb : Nat) (s : RB) : Heap := [(xr, rrC rb s.bad), (rb, rdC s.t)]
theorem numO_e2 (t : Bytes) : (numO t).2.1 = 0 ∨ (numO t).2.1 = 1 := by
  unfold numO; split <;> simp
set_option maxHeartbeats 1000000 in
theorem rrnum_spec {w : World} {xr rb : Nat} {s : RB} (hh : Holds (rrH xr rb s) w) (ht : s.t.length ≤ 70368744177664) :
    Cl Tryz.prog f_rows_reader_num [ptr xr] w fun v w' => v = .int .u64 (rbNum s).1 ∧ St w [xr, rb] (rrH xr rb (rbNum s).2) w' := by
  obtain ⟨t, bd⟩ := s
  have hS : St w [xr, rb] [(xr, rrC rb bd), (rb, rdC t)] w := St.enter hh
  have he := numO_e2 t
  unfold rbNum
  refine en_rows_reader_num rfl ?_
  repeat (first | refine SemW.run tblOk ?_ | refine jA (by omega) ?_ | refine jB (by omega) ?_ | refine jC (by omega) ?_ | refine jD (by omega) ?_ | refine jE rfl ?_ | refine jF (by omega) ?_ | (refine jG ?_; first | with_reducible (first | refine jH ?_ | refine jI ?_ | refine jJ ?_ | refine jK ?_ | refine jL ?_) | refine jM (by omega) ?_ | refine jN (by omega) ?_ | with_reducible refine jM rfl ?_ | refine jM (by assumption) ?_ | refine jN (by assumption) ?_ | refine jM (by decide) ?_ | refine jN (by decide) ?_) | refine jF (ptr_ok tblOk rfl rfl) ?_ | refine jO (fun _ => by kernel_rfl) ?_ | refine jF (by decide) ?_ | refine hS.ld rfl ?_ | refine hS.ldn rfl ?_ | (refine hS.st rfl rfl ?_; intro _ hS))
  refine Cl.mono (RNum_spec (t := t) (hS.part (L := [(rb, rdC t)])) ht) ?_
  rintro _ w1 ⟨rfl, hS'⟩
  have hS := hS.call (L := [(rb, rdC t)]) hS'
  simp only at he ⊢
  generalize numO t = y at hS he ⊢
  obtain ⟨n, e, t'⟩ := y
  simp only at hS he ⊢
  rcases he with rfl | rfl
  · cases bd
    · repeat (first | refine SemW.run tblOk ?_ | refine jA (by omega) ?_ | refine jB (by omega) ?_ | refine jC (by omega) ?_ | refine jD (by omega) ?_ | refine jE rfl ?_ | refine jF (by omega) ?_ | (refine jG ?_; first | with_reducible (first | refine jH ?_ | refine jI ?_ | refine jJ ?_ | refine jK ?_ | refine jL ?_) | refine jM (by omega) ?_ | refine jN (by omega) ?_ | with_reducible refine jM rfl ?_ | refine jM (by assumption) ?_ | refine jN (by assumption) ?_ | refine jM (by decide) ?_ | refine jN (by decide) ?_) | refine jF (ptr_ok tblOk rfl rfl) ?_ | refine jO (fun _ => by kernel_rfl) ?_ | refine jF (by decide) ?_ | refine hS.ld rfl ?_ | refine hS.ldn rfl ?_ | (refine hS.st rfl rfl ?_; intro _ hS))
      exact ⟨rfl, hS⟩
    · repeat (first | refine SemW.run tblOk ?_ | refine jA (by omega) ?_ | refine jB (by omega) ?_ | refine jC (by omega) ?_ | refine jD (by omega) ?_ | refine jE rfl ?_ | refine jF (by omega) ?_ | (refine jG ?_; first | with_reducible (first | refine jH ?_ | refine jI ?_ | refine jJ ?_ | refine jK ?_ | refine jL ?_) | refine jM (by omega) ?_ | refine jN (by omega) ?_ | with_reducible refine jM rfl ?_ | refine jM (by assumption) ?_ | refine jN (by assumption) ?_ | refine jM (by decide) ?_ | refine jN (by decide) ?_) | refine jF (ptr_ok tblOk rfl rfl) ?_ | refine jO (fun _ => by kernel_rfl) ?_ | refine jF (by decide) ?_ | refine hS.ld rfl ?_ | refine hS.ldn rfl ?_ | (refine hS.st rfl rfl ?_; intro _ hS))
      exact ⟨rfl, hS⟩
  · cases bd
    · repeat (first | refine SemW.run tblOk ?_ | refine jA (by omega) ?_ | refine jB (by omega) ?_ | refine jC (by omega) ?_ | refine jD (by omega) ?_ | refine jE rfl ?_ | refine jF (by omega) ?_ | (refine jG ?_; first | with_reducible (first | refine jH ?_ | refine jI ?_ | refine jJ ?_ | refine jK ?_ | refine jL ?_) | refine jM (by omega) ?_ | refine jN (by omega) ?_ | with_reducible refine jM rfl ?_ | refine jM (by assumption) ?_ | refine jN (by assumption) ?_ | refine jM (by decide) ?_ | refine jN (by decide) ?_) | refine jF (ptr_ok tblOk rfl rfl) ?_ | refine jO (fun _ => by kernel_rfl) ?_ | refine jF (by decide) ?_ | refine hS.ld rfl ?_ | refine hS.ldn rfl ?_ | (refine hS.st rfl rfl ?_; intro _ hS))
      exact ⟨rfl, hS⟩
    · repeat (first | refine SemW.run tblOk ?_ | refine jA (by omega) ?_ | refine jB (by omega) ?_ | refine jC (by omega) ?_ | refine jD (by omega) ?_ | refine jE rfl ?_ | refine jF (by omega) ?_ | (refine jG ?_; first | with_reducible (first | refine jH ?_ | refine jI ?_ | refine jJ ?_ | refine jK ?_ | refine jL ?_) | refine jM (by omega) ?_ | refine jN (by omega) ?_ | with_reducible refine jM rfl ?_ | refine jM (by assumption) ?_ | refine jN (by assumption) ?_ | refine jM (by decide) ?_ | refine jN (by decide) ?_) | refine jF (ptr_ok tblOk rfl rfl) ?_ | refine jO (fun _ => by kernel_rfl) ?_ | refine jF (by decide) ?_ | refine hS.ld rfl ?_ | refine hS.ldn rfl ?_ | (refine hS.st rfl rfl ?_; intro _ hS))
      exact ⟨rfl, hS⟩
set_option maxHeartbeats 1000000 in
theorem rrint_spec {w : World} {xr rb : Nat} {s : RB} (hh : Holds (rrH xr rb s) w) (ht : s.t.length ≤ 70368744177664) :
    Cl Tryz.prog f_rows_reader_int [ptr xr] w fun v w' => v = .int .i64 (rbInt s).1 ∧ St w [xr, rb] (rrH xr rb (rbInt s).2) w' := by
  obtain ⟨t, bd⟩ := s
  have hS : St w [xr, rb] [(xr, rrC rb bd), (rb, rdC t)] w := St.enter hh
  have he : (intO t).2.1 = 0 ∨ (intO t).2.1 = 1 := numO_e2 t
  unfold rbInt
  refine en_rows_reader_int rfl ?_
  repeat (first | refine SemW.run tblOk ?_ | refine jA (by omega) ?_ | refine jB (by omega) ?_ | refine jC (by omega) ?_ | refine jD (by omega) ?_ | refine jE rfl ?_ | refine jF (by omega) ?_ | (refine jG ?_; first | with_reducible (first | refine jH ?_ | refine jI ?_ | refine jJ ?_ | refine jK ?_ | refine jL ?_) | refine jM (by omega) ?_ | refine jN (by omega) ?_ | with_reducible refine jM rfl ?_ | refine jM (by assumption) ?_ | refine jN (by assumption) ?_ | refine jM (by decide) ?_ | refine jN (by decide) ?_) | refine jF (ptr_ok tblOk rfl rfl) ?_ | refine jO (fun _ => by kernel_rfl) ?_ | refine jF (by decide) ?_ | refine hS.ld rfl ?_ | refine hS.ldn rfl ?_ | (refine hS.st rfl rfl ?_; intro _ hS))
  refine Cl.mono (RInt_spec (t := t) (hS.part (L := [(rb, rdC t)])) ht) ?_
  rintro _ w1 ⟨rfl, hS'⟩
  have hS := hS.call (L := [(rb, rdC t)]) hS'
  simp only at he ⊢
  generalize intO t = y at hS he ⊢
  obtain ⟨n, e, t'⟩ := y
  simp only at hS he ⊢
  rcases he with rfl | rfl
  · cases bd
    · repeat (first | refine SemW.run tblOk ?_ | refine jA (by omega) ?_ | refine jB (by omega) ?_ | refine jC (by omega) ?_ | refine jD (by omega) ?_ | refine jE rfl ?_ | refine jF (by omega) ?_ | (refine jG ?_; first | with_reducible (first | refine jH ?_ | refine jI ?_ | refine jJ ?_ | refine jK ?_ | refine jL ?_) | refine jM (by omega) ?_ | refine jN (by omega) ?_ | with_reducible refine jM rfl ?_ | refine jM (by assumption) ?_ | refine jN (by assumption) ?_ | refine jM (by decide) ?_ | refine jN (by decide) ?_) | refine jF (ptr_ok tblOk rfl rfl) ?_ | refine jO (fun _ => by kernel_rfl) ?_ | refine jF (by decide) ?_ | refine hS.ld rfl ?_ | refine hS.ldn rfl ?_ | (refine hS.st rfl rfl ?_; intro _ hS))
      exact ⟨rfl, hS⟩
    · repeat (first | refine SemW.run tblOk ?_ | refine jA (by omega) ?_ | refine jB (by omega) ?_ | refine jC (by omega) ?_ | refine jD (by omega) ?_ | refine jE rfl ?_ | refine jF (by omega) ?_ | (refine jG ?_; first | with_reducible (first | refine jH ?_ | refine jI ?_ | refine jJ ?_ | refine jK ?_ | refine jL ?_) | refine jM (by omega) ?_ | refine jN (by omega) ?_ | with_reducible refine jM rfl ?_ | refine jM (by assumption) ?_ | refine jN (by assumption) ?_ | refine jM (by decide) ?_ | refine jN (by decide) ?_) | refine jF (ptr_ok tblOk rfl rfl) ?_ | refine jO (fun _ => by kernel_rfl) ?_ | refine jF (by decide) ?_ | refine hS.ld rfl ?_ | refine hS.ldn rfl ?_ | (refine hS.st rfl rfl ?_; intro _ hS))
      exact ⟨rfl, hS⟩
  · cases bd
    · repeat (first | refine SemW.run tblOk ?_ | refine jA (by omega) ?_ | refine jB (by omega) ?_ | refine jC (by omega) ?_ | refine jD (by omega) ?_ | refine jE rfl ?_ | refine jF (by omega) ?_ | (refine jG ?_; first | with_reducible (first | refine jH ?_ | refine jI ?_ | refine jJ ?_ | refine jK ?_ | refine jL ?_) | refine jM (by omega) ?_ | refine jN (by omega) ?_ | with_reducible refine jM rfl ?_ | refine jM (by assumption) ?_ | refine jN (by assumption) ?_ | refine jM (by decide) ?_ | refine jN (by decide) ?_) | refine jF (ptr_ok tblOk rfl rfl) ?_ | refine jO (fun _ => by kernel_rfl) ?_ | refine jF (by decide) ?_ | refine hS.ld rfl ?_ | refine hS.ldn rfl ?_ | (refine hS.st rfl rfl ?_; intro _ hS))
      exact ⟨rfl, hS⟩
    · repeat (first | refine SemW.run tblOk ?_ | refine jA (by omega) ?_ | refine jB (by omega) ?_ | refine jC (by omega) ?_ | refine jD (by omega) ?_ | refine jE rfl ?_ | refine jF (by omega) ?_ | (refine jG ?_; first | with_reducible (first | refine jH ?_ | refine jI ?_ | refine jJ ?_ | refine jK ?_ | refine jL ?_) | refine jM (by omega) ?_ | refine jN (by omega) ?_ | with_reducible refine jM rfl ?_ | refine jM (by assumption) ?_ | refine jN (by assumption) ?_ | refine jM (by decide) ?_ | refine jN (by decide) ?_) | refine jF (ptr_ok tblOk rfl rfl) ?_ | refine jO (fun _ => by kernel_rfl) ?_ | refine jF (by decide) ?_ | refine hS.ld rfl ?_ | refine hS.ldn rfl ?_ | (refine hS.st rfl rfl ?_; intro _ hS))
      exact ⟨rfl, hS⟩
set_option maxHeartbeats 1000000 in
theorem rrtext_spec {w : World} {xr rb : Nat} {s : RB} (hh : Holds (rrH xr rb s) w) (ht : s.t.length ≤ 70368744177664) :
    Cl Tryz.prog f_rows_reader_text [ptr xr] w fun v w' => v = Str (wText s).1 ∧ St w [xr, rb] (rrH xr rb (wText s).2) w' := by
  obtain ⟨t, bd⟩ := s
  have hS : St w [xr, rb] [(xr, rrC rb bd), (rb, rdC t)] w := St.enter hh
  have he := textO_err t
  unfold wText
  refine en_rows_reader_text rfl ?_
  repeat (first | refine SemW.run tblOk ?_ | refine jA (by omega) ?_ | refine jB (by omega) ?_ | refine jC (by omega) ?_ | refine jD (by omega) ?_ | refine jE rfl ?_ | refine jF (by omega) ?_ | (refine jG ?_; first | with_reducible (first | refine jH ?_ | refine jI ?_ | refine jJ ?_ | refine jK ?_ | refine jL ?_) | refine jM (by omega) ?_ | refine jN (by omega) ?_ | with_reducible refine jM rfl ?_ | refine jM (by assumption) ?_ | refine jN (by assumption) ?_ | refine jM (by decide) ?_ | refine jN (by decide) ?_) | refine jF (ptr_ok tblOk rfl rfl) ?_ | refine jO (fun _ => by kernel_rfl) ?_ | refine jF (by decide) ?_ | refine hS.ld rfl ?_ | refine hS.ldn rfl ?_ | (refine hS.st rfl rfl ?_; intro _ hS))
  refine Cl.mono (RText_spec (t := t) (hS.part (L := [(rb, rdC t)])) ht) ?_
  rintro _ w1 ⟨rfl, hS'⟩
  have hS := hS.call (L := [(rb, rdC t)]) hS'
  simp only at he ⊢
  generalize textO t = y at hS he ⊢
  obtain ⟨n, e, t'⟩ := y
  simp only at hS he ⊢
  rcases he with rfl | rfl
  · cases bd
    · repeat (first | refine SemW.run tblOk ?_ | refine jA (by omega) ?_ | refine jB (by omega) ?_ | refine jC (by omega) ?_ | refine jD (by omega) ?_ | refine jE rfl ?_ | refine jF (by omega) ?_ | (refine jG ?_; first | with_reducible (first | refine jH ?_ | refine jI ?_ | refine jJ ?_ | refine jK ?_ | refine jL ?_) | refine jM (by omega) ?_ | refine jN (by omega) ?_ | with_reducible refine jM rfl ?_ | refine jM (by assumption) ?_ | refine jN (by assumption) ?_ | refine jM (by decide) ?_ | refine jN (by decide) ?_) | refine jF (ptr_ok tblOk rfl rfl) ?_ | refine jO (fun _ => by kernel_rfl) ?_ | refine jF (by decide) ?_ | refine hS.ld rfl ?_ | refine hS.ldn rfl ?_ | (refine hS.st rfl rfl ?_; intro _ hS))
      exact ⟨rfl, hS⟩
    · repeat (first | refine SemW.run tblOk ?_ | refine jA (by omega) ?_ | refine jB (by omega) ?_ | refine jC (by omega) ?_ | refine jD (by omega) ?_ | refine jE rfl ?_ | refine jF (by omega) ?_ | (refine jG ?_; first | with_reducible (first | refine jH ?_ | refine jI ?_ | refine jJ ?_ | refine jK ?_ | refine jL ?_) | refine jM (by omega) ?_ | refine jN (by omega) ?_ | with_reducible refine jM rfl ?_ | refine jM (by assumption) ?_ | refine jN (by assumption) ?_ | refine jM (by decide) ?_ | refine jN (by decide) ?_) | refine jF (ptr_ok tblOk rfl rfl) ?_ | refine jO (fun _ => by kernel_rfl) ?_ | refine jF (by decide) ?_ | refine hS.ld rfl ?_ | refine hS.ldn rfl ?_ | (refine hS.st rfl rfl ?_; intro _ hS))
      exact ⟨rfl, hS⟩
  · cases bd
    · repeat (first | refine SemW.run tblOk ?_ | refine jA (by omega) ?_ | refine jB (by omega) ?_ | refine jC (by omega) ?_ | refine jD (by omega) ?_ | refine jE rfl ?_ | refine jF (by omega) ?_ | (refine jG ?_; first | with_reducible (first | refine jH ?_ | refine jI ?_ | refine jJ ?_ | refine jK ?_ | refine jL ?_) | refine jM (by omega) ?_ | refine jN (by omega) ?_ | with_reducible refine jM rfl ?_ | refine jM (by assumption) ?_ | refine jN (by assumption) ?_ | refine jM (by decide) ?_ | refine jN (by decide) ?_) | refine jF (ptr_ok tblOk rfl rfl) ?_ | refine jO (fun _ => by kernel_rfl) ?_ | refine jF (by decide) ?_ | refine hS.ld rfl ?_ | refine hS.ldn rfl ?_ | (refine hS.st rfl rfl ?_; intro _ hS))
      exact ⟨rfl, hS⟩
    · repeat (first | refine SemW.run tblOk ?_ | refine jA (by omega) ?_ | refine jB (by omega) ?_ | refine jC (by omega) ?_ | refine jD (by omega) ?_ | refine jE rfl ?_ | refine jF (by omega) ?_ | (refine jG ?_; first | with_reducible (first | refine jH ?_ | refine jI ?_ | refine jJ ?_ | refine jK ?_ | refine jL ?_) | refine jM (by omega) ?_ | refine jN (by omega) ?_ | with_reducible refine jM rfl ?_ | refine jM (by assumption) ?_ | refine jN (by assumption) ?_ | refine jM (by decide) ?_ | refine jN (by decide) ?_) | refine jF (ptr_ok tblOk rfl rfl) ?_ | refine jO (fun _ => by kernel_rfl) ?_ | refine jF (by decide) ?_ | refine hS.ld rfl ?_ | refine hS.ldn rfl ?_ | (refine hS.st rfl rfl ?_; intro _ hS))
      exact ⟨rfl, hS⟩
/-- Marks, read so that none is too many. -/
def rMarks (k : Nat) (s : RB) : List Bool × RB := (bitsN k (rbNum s).1, ⟨(rbNum s).2.t, (rbNum s).2.bad || decide (2 ^ k ≤ (rbNum s).1)⟩)
structure MKI where
  l : List Bool
  a : Option Addr
  c : Nat
theorem shr_zero (n k : Nat) : (((n / 2 ^ k : Nat) : Int) = 0) ↔ ¬ 2 ^ k ≤ n := by
  have := Nat.two_pow_pos k
  constructor
  · intro h h2
    have h3 : n / 2 ^ k = 0 := by omega
    have := Nat.div_pos h2 (by omega)
    omega
  · intro h
    have := Nat.div_eq_of_lt (Nat.lt_of_not_le h)
    omega
set_option maxHeartbeats 4000000 in
theorem rrmarks_spec {w : World} {xr rb : Nat} {s : RB} (k : Nat) (hk : k ≤ 8) (hh : Holds (rrH xr rb s) w) (ht : s.t.length ≤ 70368744177664) :
    Cl Tryz.prog f_rows_reader_marks [ptr xr, .int .i64 k] w fun v w' => ∃ a c L, v = .slice a k c ∧ Vec T_bool 1 a k c ((rMarks k s).1.map Value.bool) L ∧ St w [xr, rb] (rrH xr rb (rMarks k s).2 ++ L) w' := by
  have hS : St w [xr, rb] (rrH xr rb s) w := St.enter hh
  unfold rMarks
  refine en_rows_reader_marks rfl ?_
  repeat (first | refine SemW.run tblOk ?_ | refine jA (by omega) ?_ | refine jB (by omega) ?_ | refine jC (by omega) ?_ | refine jD (by omega) ?_ | refine jE rfl ?_ | refine jF (by omega) ?_ | (refine jG ?_; first | with_reducible (first | refine jH ?_ | refine jI ?_ | refine jJ ?_ | refine jK ?_ | refine jL ?_) | refine jM (by omega) ?_ | refine jN (by omega) ?_ | with_reducible refine jM rfl ?_ | refine jM (by assumption) ?_ | refine jN (by assumption) ?_ | refine jM (by decide) ?_ | refine jN (by decide) ?_) | refine jF (ptr_ok tblOk rfl rfl) ?_ | refine jO (fun _ => by kernel_rfl) ?_ | refine jF (by decide) ?_ | refine hS.ld rfl ?_ | refine hS.ldn rfl ?_ | (refine hS.st rfl rfl ?_; intro _ hS))
  refine Cl.mono (rrnum_spec (s := s) (hS.part (L := rrH xr rb s)) ht) ?_
  rintro _ w1 ⟨rfl, hS'⟩
  have hS := hS.call (L := rrH xr rb s) hS'
  have hn : (rbNum s).1 < 18446744073709551616 := numO_lt s.t
  generalize rbNum s = y at hS hn ⊢
  obtain ⟨n, t, bd⟩ := y
  simp only at hS hn ⊢
  have hS : St w [xr, rb] [(xr, .cells ⟨[ptr rb, .bool bd]⟩ T_rows_reader (0, 0)), (rb, rdC t)] _ := hS
  have hbl := bitsN_len k n
  have hsh := shr_u n k (by omega)
  have hz := shr_zero n k
  have hdl0 : n / 2 ^ k ≤ n := Nat.div_le_self _ _
  cases bd with
  | true =>
    rw [Bool.true_or]
    repeat (first | refine SemW.run tblOk ?_ | refine jA (by omega) ?_ | refine jB (by omega) ?_ | refine jC (by omega) ?_ | refine jD (by omega) ?_ | refine jE rfl ?_ | refine jF (by omega) ?_ | (refine jG ?_; first | with_reducible (first | refine jH ?_ | refine jI ?_ | refine jJ ?_ | refine jK ?_ | refine jL ?_) | refine jM (by omega) ?_ | refine jN (by omega) ?_ | with_reducible refine jM rfl ?_ | refine jM (by assumption) ?_ | refine jN (by assumption) ?_ | refine jM (by decide) ?_ | refine jN (by decide) ?_) | refine jF (ptr_ok tblOk rfl rfl) ?_ | refine jO (fun _ => by kernel_rfl) ?_ | refine jF (by decide) ?_ | refine hS.ld rfl ?_ | refine hS.ldn rfl ?_ | (refine hS.st rfl rfl ?_; intro _ hS))
    refine SemW.loop (fun z : MKI => [(5, .int .u64 n), (6, .slice z.a z.l.length z.c), (24, .int .i64 k), (25, .int .i64 z.l.length)])
      (fun z w' => (z.l.length ≤ k ∧ z.l = (bitsN k n).take z.l.length) ∧ ∃ L, Vec T_bool 1 z.a z.l.length z.c (z.l.map Value.bool) L ∧ St w [xr, rb] (rrH xr rb ⟨t, true⟩ ++ L) w') (fun z => k - z.l.length) ⟨[], none, 0⟩
      ⟨rfl, rfl, rfl, rfl, trivial⟩ ⟨⟨Nat.zero_le _, rfl⟩, [], Vec.nil, hS⟩ ?_
    clear hS hS'
    rintro ⟨l, a, c⟩ w4 ⟨⟨hl, he⟩, L, hv, hS⟩
    simp only at hl he hv hS ⊢
    by_cases hlk : l.length < k
    · have hkb : l.length < (bitsN k n).length := by omega
      have hbg := bitsN_get k n l.length hkb
      have hsn := List.take_succ_eq_append_getElem hkb
      rw [hbg, ← he] at hsn
      have hs2 := shr_u n l.length (by omega)
      have hdl : n / 2 ^ l.length ≤ n := Nat.div_le_self _ _
      have had := and_one (n / 2 ^ l.length) (by omega)
      generalize n / 2 ^ l.length = q at hsn hs2 hdl had
      have hbe : decide (((q % 2 : Nat) : Int) = 1) = decide (q % 2 = 1) := by rw [decide_eq_decide]; omega
      repeat (first | refine SemW.run tblOk ?_ | refine jA (by omega) ?_ | refine jB (by omega) ?_ | refine jC (by omega) ?_ | refine jD (by omega) ?_ | refine jE rfl ?_ | refine jF (by omega) ?_ | (refine jG ?_; first | with_reducible (first | refine jH ?_ | refine jI ?_ | refine jJ ?_ | refine jK ?_ | refine jL ?_) | refine jM (by omega) ?_ | refine jN (by omega) ?_ | with_reducible refine jM rfl ?_ | refine jM (by assumption) ?_ | refine jN (by assumption) ?_ | refine jM (by decide) ?_ | refine jN (by decide) ?_) | refine jF (ptr_ok tblOk rfl rfl) ?_ | refine jO (fun _ => by kernel_rfl) ?_ | refine jF (by decide) ?_ | refine hS.ld rfl ?_ | refine hS.ldn rfl ?_ | (refine hS.st rfl rfl ?_; intro _ hS))
      repeat (first | refine SemW.run tblOk ?_ | refine jA (by omega) ?_ | refine jB (by omega) ?_ | refine jC (by omega) ?_ | refine jD (by omega) ?_ | refine jE rfl ?_ | refine jF (by omega) ?_ | (refine jG ?_; first | with_reducible (first | refine jH ?_ | refine jI ?_ | refine jJ ?_ | refine jK ?_ | refine jL ?_) | refine jM (by omega) ?_ | refine jN (by omega) ?_ | with_reducible refine jM rfl ?_ | refine jM (by assumption) ?_ | refine jN (by assumption) ?_ | refine jM (by decide) ?_ | refine jN (by decide) ?_) | refine jF (ptr_ok tblOk rfl rfl) ?_ | refine jO (fun _ => by kernel_rfl) ?_ | refine jF (by decide) ?_ | refine hS.ld rfl ?_ | refine hS.ldn rfl ?_ | (refine hS.st rfl rfl ?_; intro _ hS))
      refine hS.al ?_
      intro q2 w5 _ hS
      rw [hs2, had, hbe] at hS
      repeat (first | refine SemW.run tblOk ?_ | refine jA (by omega) ?_ | refine jB (by omega) ?_ | refine jC (by omega) ?_ | refine jD (by omega) ?_ | refine jE rfl ?_ | refine jF (by omega) ?_ | (refine jG ?_; first | with_reducible (first | refine jH ?_ | refine jI ?_ | refine jJ ?_ | refine jK ?_ | refine jL ?_) | refine jM (by omega) ?_ | refine jN (by omega) ?_ | with_reducible refine jM rfl ?_ | refine jM (by assumption) ?_ | refine jN (by assumption) ?_ | refine jM (by decide) ?_ | refine jN (by decide) ?_) | refine jF (ptr_ok tblOk rfl rfl) ?_ | refine jO (fun _ => by kernel_rfl) ?_ | refine jF (by decide) ?_ | refine hS.ld rfl ?_ | refine hS.ldn rfl ?_ | (refine hS.st rfl rfl ?_; intro _ hS))
      refine St.app (sz := 1) (m := 1) tblOk rfl rfl rfl rfl hS hv (news := [Value.bool (decide (q % 2 = 1))]) rfl (by have := hS.arr (b := q2) (T' := []) (by simp); exact this) rfl (by show (_ + _) * 1 ≤ _; omega) (by omega) ?_
      intro a2 c2 L2 w9 hv hS
      have e9 : l.map Value.bool ++ [Value.bool (decide (q % 2 = 1))] = (l ++ [decide (q % 2 = 1)]).map Value.bool := by simp
      have e8 : l.length + 1 = (l ++ [decide (q % 2 = 1)]).length := by simp
      rw [e9, e8] at hv
      rw [e8]
      repeat (first | refine SemW.run tblOk ?_ | refine jA (by omega) ?_ | refine jB (by omega) ?_ | refine jC (by omega) ?_ | refine jD (by omega) ?_ | refine jE rfl ?_ | refine jF (by omega) ?_ | (refine jG ?_; first | with_reducible (first | refine jH ?_ | refine jI ?_ | refine jJ ?_ | refine jK ?_ | refine jL ?_) | refine jM (by omega) ?_ | refine jN (by omega) ?_ | with_reducible refine jM rfl ?_ | refine jM (by assumption) ?_ | refine jN (by assumption) ?_ | refine jM (by decide) ?_ | refine jN (by decide) ?_) | refine jF (ptr_ok tblOk rfl rfl) ?_ | refine jO (fun _ => by kernel_rfl) ?_ | refine jF (by decide) ?_ | refine hS.ld rfl ?_ | refine hS.ldn rfl ?_ | (refine hS.st rfl rfl ?_; intro _ hS))
      exact ⟨⟨l ++ [decide (q % 2 = 1)], a2, c2⟩, ⟨rfl, rfl, rfl, by show _ = Value.int .i64 _; congr 1; simp, trivial⟩, ⟨⟨by simp only [List.length_append, List.length_singleton]; omega, by simp only; rw [← e8]; exact hsn.symm⟩, L2, hv, hS.sub (List.sublist_cons_self _ _)⟩, by simp only [List.length_append, List.length_singleton]; omega⟩
    · have hle : l.length = k := by omega
      have hlb : l = bitsN k n := by rw [he]; exact List.take_of_length_le (by omega)
      repeat (first | refine SemW.run tblOk ?_ | refine jA (by omega) ?_ | refine jB (by omega) ?_ | refine jC (by omega) ?_ | refine jD (by omega) ?_ | refine jE rfl ?_ | refine jF (by omega) ?_ | (refine jG ?_; first | with_reducible (first | refine jH ?_ | refine jI ?_ | refine jJ ?_ | refine jK ?_ | refine jL ?_) | refine jM (by omega) ?_ | refine jN (by omega) ?_ | with_reducible refine jM rfl ?_ | refine jM (by assumption) ?_ | refine jN (by assumption) ?_ | refine jM (by decide) ?_ | refine jN (by decide) ?_) | refine jF (ptr_ok tblOk rfl rfl) ?_ | refine jO (fun _ => by kernel_rfl) ?_ | refine jF (by decide) ?_ | refine hS.ld rfl ?_ | refine hS.ldn rfl ?_ | (refine hS.st rfl rfl ?_; intro _ hS))
      refine ⟨a, c, L, by rw [hle], ?_, hS⟩
      rw [← hlb, ← hle]
      exact hv
  | false =>
    rw [Bool.false_or]
    repeat (first | refine SemW.run tblOk ?_ | refine jA (by omega) ?_ | refine jB (by omega) ?_ | refine jC (by omega) ?_ | refine jD (by omega) ?_ | refine jE rfl ?_ | refine jF (by omega) ?_ | (refine jG ?_; first | with_reducible (first | refine jH ?_ | refine jI ?_ | refine jJ ?_ | refine jK ?_ | refine jL ?_) | refine jM (by omega) ?_ | refine jN (by omega) ?_ | with_reducible refine jM rfl ?_ | refine jM (by assumption) ?_ | refine jN (by assumption) ?_ | refine jM (by decide) ?_ | refine jN (by decide) ?_) | refine jF (ptr_ok tblOk rfl rfl) ?_ | refine jO (fun _ => by kernel_rfl) ?_ | refine jF (by decide) ?_ | refine hS.ld rfl ?_ | refine hS.ldn rfl ?_ | (refine hS.st rfl rfl ?_; intro _ hS))
    rw [hsh] at hS
    by_cases h2 : 2 ^ k ≤ n
    · have hnz : ¬ ((n / 2 ^ k : Nat) : Int) = 0 := fun h => hz.1 h h2
      rw [decide_eq_true h2]
      rw [decide_eq_false hnz, Bool.not_false] at hS
      refine SemW.loop (fun z : MKI => [(5, .int .u64 n), (6, .slice z.a z.l.length z.c), (24, .int .i64 k), (25, .int .i64 z.l.length)])
        (fun z w' => (z.l.length ≤ k ∧ z.l = (bitsN k n).take z.l.length) ∧ ∃ L, Vec T_bool 1 z.a z.l.length z.c (z.l.map Value.bool) L ∧ St w [xr, rb] (rrH xr rb ⟨t, true⟩ ++ L) w') (fun z => k - z.l.length) ⟨[], none, 0⟩
        ⟨rfl, rfl, rfl, rfl, trivial⟩ ⟨⟨Nat.zero_le _, rfl⟩, [], Vec.nil, hS⟩ ?_
      clear hS hS'
      rintro ⟨l, a, c⟩ w4 ⟨⟨hl, he⟩, L, hv, hS⟩
      simp only at hl he hv hS ⊢
      by_cases hlk : l.length < k
      · have hkb : l.length < (bitsN k n).length := by omega
        have hbg := bitsN_get k n l.length hkb
        have hsn := List.take_succ_eq_append_getElem hkb
        rw [hbg, ← he] at hsn
        have hs2 := shr_u n l.length (by omega)
        have hdl : n / 2 ^ l.length ≤ n := Nat.div_le_self _ _
        have had := and_one (n / 2 ^ l.length) (by omega)
        generalize n / 2 ^ l.length = q at hsn hs2 hdl had
        have hbe : decide (((q % 2 : Nat) : Int) = 1) = decide (q % 2 = 1) := by rw [decide_eq_decide]; omega
        repeat (first | refine SemW.run tblOk ?_ | refine jA (by omega) ?_ | refine jB (by omega) ?_ | refine jC (by omega) ?_ | refine jD (by omega) ?_ | refine jE rfl ?_ | refine jF (by omega) ?_ | (refine jG ?_; first | with_reducible (first | refine jH ?_ | refine jI ?_ | refine jJ ?_ | refine jK ?_ | refine jL ?_) | refine jM (by omega) ?_ | refine jN (by omega) ?_ | with_reducible refine jM rfl ?_ | refine jM (by assumption) ?_ | refine jN (by assumption) ?_ | refine jM (by decide) ?_ | refine jN (by decide) ?_) | refine jF (ptr_ok tblOk rfl rfl) ?_ | refine jO (fun _ => by kernel_rfl) ?_ | refine jF (by decide) ?_ | refine hS.ld rfl ?_ | refine hS.ldn rfl ?_ | (refine hS.st rfl rfl ?_; intro _ hS))
        repeat (first | refine SemW.run tblOk ?_ | refine jA (by omega) ?_ | refine jB (by omega) ?_ | refine jC (by omega) ?_ | refine jD (by omega) ?_ | refine jE rfl ?_ | refine jF (by omega) ?_ | (refine jG ?_; first | with_reducible (first | refine jH ?_ | refine jI ?_ | refine jJ ?_ | refine jK ?_ | refine jL ?_) | refine jM (by omega) ?_ | refine jN (by omega) ?_ | with_reducible refine jM rfl ?_ | refine jM (by assumption) ?_ | refine jN (by assumption) ?_ | refine jM (by decide) ?_ | refine jN (by decide) ?_) | refine jF (ptr_ok tblOk rfl rfl) ?_ | refine jO (fun _ => by kernel_rfl) ?_ | refine jF (by decide) ?_ | refine hS.ld rfl ?_ | refine hS.ldn rfl ?_ | (refine hS.st rfl rfl ?_; intro _ hS))
        refine hS.al ?_
        intro q2 w5 _ hS
        rw [hs2, had, hbe] at hS
        repeat (first | refine SemW.run tblOk ?_ | refine jA (by omega) ?_ | refine jB (by omega) ?_ | refine jC (by omega) ?_ | refine jD (by omega) ?_ | refine jE rfl ?_ | refine jF (by omega) ?_ | (refine jG ?_; first | with_reducible (first | refine jH ?_ | refine jI ?_ | refine jJ ?_ | refine jK ?_ | refine jL ?_) | refine jM (by omega) ?_ | refine jN (by omega) ?_ | with_reducible refine jM rfl ?_ | refine jM (by assumption) ?_ | refine jN (by assumption) ?_ | refine jM (by decide) ?_ | refine jN (by decide) ?_) | refine jF (ptr_ok tblOk rfl rfl) ?_ | refine jO (fun _ => by kernel_rfl) ?_ | refine jF (by decide) ?_ | refine hS.ld rfl ?_ | refine hS.ldn rfl ?_ | (refine hS.st rfl rfl ?_; intro _ hS))
        refine St.app (sz := 1) (m := 1) tblOk rfl rfl rfl rfl hS hv (news := [Value.bool (decide (q % 2 = 1))]) rfl (by have := hS.arr (b := q2) (T' := []) (by simp); exact this) rfl (by show (_ + _) * 1 ≤ _; omega) (by omega) ?_
        intro a2 c2 L2 w9 hv hS
        have e9 : l.map Value.bool ++ [Value.bool (decide (q % 2 = 1))] = (l ++ [decide (q % 2 = 1)]).map Value.bool := by simp
        have e8 : l.length + 1 = (l ++ [decide (q % 2 = 1)]).length := by simp
        rw [e9, e8] at hv
        rw [e8]
        repeat (first | refine SemW.run tblOk ?_ | refine jA (by omega) ?_ | refine jB (by omega) ?_ | refine jC (by omega) ?_ | refine jD (by omega) ?_ | refine jE rfl ?_ | refine jF (by omega) ?_ | (refine jG ?_; first | with_reducible (first | refine jH ?_ | refine jI ?_ | refine jJ ?_ | refine jK ?_ | refine jL ?_) | refine jM (by omega) ?_ | refine jN (by omega) ?_ | with_reducible refine jM rfl ?_ | refine jM (by assumption) ?_ | refine jN (by assumption) ?_ | refine jM (by decide) ?_ | refine jN (by decide) ?_) | refine jF (ptr_ok tblOk rfl rfl) ?_ | refine jO (fun _ => by kernel_rfl) ?_ | refine jF (by decide) ?_ | refine hS.ld rfl ?_ | refine hS.ldn rfl ?_ | (refine hS.st rfl rfl ?_; intro _ hS))
        exact ⟨⟨l ++ [decide (q % 2 = 1)], a2, c2⟩, ⟨rfl, rfl, rfl, by show _ = Value.int .i64 _; congr 1; simp, trivial⟩, ⟨⟨by simp only [List.length_append, List.length_singleton]; omega, by simp only; rw [← e8]; exact hsn.symm⟩, L2, hv, hS.sub (List.sublist_cons_self _ _)⟩, by simp only [List.length_append, List.length_singleton]; omega⟩
      · have hle : l.length = k := by omega
        have hlb : l = bitsN k n := by rw [he]; exact List.take_of_length_le (by omega)
        repeat (first | refine SemW.run tblOk ?_ | refine jA (by omega) ?_ | refine jB (by omega) ?_ | refine jC (by omega) ?_ | refine jD (by omega) ?_ | refine jE rfl ?_ | refine jF (by omega) ?_ | (refine jG ?_; first | with_reducible (first | refine jH ?_ | refine jI ?_ | refine jJ ?_ | refine jK ?_ | refine jL ?_) | refine jM (by omega) ?_ | refine jN (by omega) ?_ | with_reducible refine jM rfl ?_ | refine jM (by assumption) ?_ | refine jN (by assumption) ?_ | refine jM (by decide) ?_ | refine jN (by decide) ?_) | refine jF (ptr_ok tblOk rfl rfl) ?_ | refine jO (fun _ => by kernel_rfl) ?_ | refine jF (by decide) ?_ | refine hS.ld rfl ?_ | refine hS.ldn rfl ?_ | (refine hS.st rfl rfl ?_; intro _ hS))
        refine ⟨a, c, L, by rw [hle], ?_, hS⟩
        rw [← hlb, ← hle]
        exact hv
    · have hnz : ((n / 2 ^ k : Nat) : Int) = 0 := hz.2 h2
      rw [decide_eq_false h2]
      rw [decide_eq_true hnz, Bool.not_true] at hS
      refine SemW.loop (fun z : MKI => [(5, .int .u64 n), (6, .slice z.a z.l.length z.c), (24, .int .i64 k), (25, .int .i64 z.l.length)])
        (fun z w' => (z.l.length ≤ k ∧ z.l = (bitsN k n).take z.l.length) ∧ ∃ L, Vec T_bool 1 z.a z.l.length z.c (z.l.map Value.bool) L ∧ St w [xr, rb] (rrH xr rb ⟨t, false⟩ ++ L) w') (fun z => k - z.l.length) ⟨[], none, 0⟩
        ⟨rfl, rfl, rfl, rfl, trivial⟩ ⟨⟨Nat.zero_le _, rfl⟩, [], Vec.nil, hS⟩ ?_
      clear hS hS'
      rintro ⟨l, a, c⟩ w4 ⟨⟨hl, he⟩, L, hv, hS⟩
      simp only at hl he hv hS ⊢
      by_cases hlk : l.length < k
      · have hkb : l.length < (bitsN k n).length := by omega
        have hbg := bitsN_get k n l.length hkb
        have hsn := List.take_succ_eq_append_getElem hkb
        rw [hbg, ← he] at hsn
        have hs2 := shr_u n l.length (by omega)
        have hdl : n / 2 ^ l.length ≤ n := Nat.div_le_self _ _
        have had := and_one (n / 2 ^ l.length) (by omega)
        generalize n / 2 ^ l.length = q at hsn hs2 hdl had
        have hbe : decide (((q % 2 : Nat) : Int) = 1) = decide (q % 2 = 1) := by rw [decide_eq_decide]; omega
        repeat (first | refine SemW.run tblOk ?_ | refine jA (by omega) ?_ | refine jB (by omega) ?_ | refine jC (by omega) ?_ | refine jD (by omega) ?_ | refine jE rfl ?_ | refine jF (by omega) ?_ | (refine jG ?_; first | with_reducible (first | refine jH ?_ | refine jI ?_ | refine jJ ?_ | refine jK ?_ | refine jL ?_) | refine jM (by omega) ?_ | refine jN (by omega) ?_ | with_reducible refine jM rfl ?_ | refine jM (by assumption) ?_ | refine jN (by assumption) ?_ | refine jM (by decide) ?_ | refine jN (by decide) ?_) | refine jF (ptr_ok tblOk rfl rfl) ?_ | refine jO (fun _ => by kernel_rfl) ?_ | refine jF (by decide) ?_ | refine hS.ld rfl ?_ | refine hS.ldn rfl ?_ | (refine hS.st rfl rfl ?_; intro _ hS))
        repeat (first | refine SemW.run tblOk ?_ | refine jA (by omega) ?_ | refine jB (by omega) ?_ | refine jC (by omega) ?_ | refine jD (by omega) ?_ | refine jE rfl ?_ | refine jF (by omega) ?_ | (refine jG ?_; first | with_reducible (first | refine jH ?_ | refine jI ?_ | refine jJ ?_ | refine jK ?_ | refine jL ?_) | refine jM (by omega) ?_ | refine jN (by omega) ?_ | with_reducible refine jM rfl ?_ | refine jM (by assumption) ?_ | refine jN (by assumption) ?_ | refine jM (by decide) ?_ | refine jN (by decide) ?_) | refine jF (ptr_ok tblOk rfl rfl) ?_ | refine jO (fun _ => by kernel_rfl) ?_ | refine jF (by decide) ?_ | refine hS.ld rfl ?_ | refine hS.ldn rfl ?_ | (refine hS.st rfl rfl ?_; intro _ hS))
        refine hS.al ?_
        intro q2 w5 _ hS
        rw [hs2, had, hbe] at hS
        repeat (first | refine SemW.run tblOk ?_ | refine jA (by omega) ?_ | refine jB (by omega) ?_ | refine jC (by omega) ?_ | refine jD (by omega) ?_ | refine jE rfl ?_ | refine jF (by omega) ?_ | (refine jG ?_; first | with_reducible (first | refine jH ?_ | refine jI ?_ | refine jJ ?_ | refine jK ?_ | refine jL ?_) | refine jM (by omega) ?_ | refine jN (by omega) ?_ | with_reducible refine jM rfl ?_ | refine jM (by assumption) ?_ | refine jN (by assumption) ?_ | refine jM (by decide) ?_ | refine jN (by decide) ?_) | refine jF (ptr_ok tblOk rfl rfl) ?_ | refine jO (fun _ => by kernel_rfl) ?_ | refine jF (by decide) ?_ | refine hS.ld rfl ?_ | refine hS.ldn rfl ?_ | (refine hS.st rfl rfl ?_; intro _ hS))
        refine St.app (sz := 1) (m := 1) tblOk rfl rfl rfl rfl hS hv (news := [Value.bool (decide (q % 2 = 1))]) rfl (by have := hS.arr (b := q2) (T' := []) (by simp); exact this) rfl (by show (_ + _) * 1 ≤ _; omega) (by omega) ?_
        intro a2 c2 L2 w9 hv hS
        have e9 : l.map Value.bool ++ [Value.bool (decide (q % 2 = 1))] = (l ++ [decide (q % 2 = 1)]).map Value.bool := by simp
        have e8 : l.length + 1 = (l ++ [decide (q % 2 = 1)]).length := by simp
        rw [e9, e8] at hv
        rw [e8]
        repeat (first | refine SemW.run tblOk ?_ | refine jA (by omega) ?_ | refine jB (by omega) ?_ | refine jC (by omega) ?_ | refine jD (by omega) ?_ | refine jE rfl ?_ | refine jF (by omega) ?_ | (refine jG ?_; first | with_reducible (first | refine jH ?_ | refine jI ?_ | refine jJ ?_ | refine jK ?_ | refine jL ?_) | refine jM (by omega) ?_ | refine jN (by omega) ?_ | with_reducible refine jM rfl ?_ | refine jM (by assumption) ?_ | refine jN (by assumption) ?_ | refine jM (by decide) ?_ | refine jN (by decide) ?_) | refine jF (ptr_ok tblOk rfl rfl) ?_ | refine jO (fun _ => by kernel_rfl) ?_ | refine jF (by decide) ?_ | refine hS.ld rfl ?_ | refine hS.ldn rfl ?_ | (refine hS.st rfl rfl ?_; intro _ hS))
        exact ⟨⟨l ++ [decide (q % 2 = 1)], a2, c2⟩, ⟨rfl, rfl, rfl, by show _ = Value.int .i64 _; congr 1; simp, trivial⟩, ⟨⟨by simp only [List.length_append, List.length_singleton]; omega, by simp only; rw [← e8]; exact hsn.symm⟩, L2, hv, hS.sub (List.sublist_cons_self _ _)⟩, by simp only [List.length_append, List.length_singleton]; omega⟩
      · have hle : l.length = k := by omega
        have hlb : l = bitsN k n := by rw [he]; exact List.take_of_length_le (by omega)
        repeat (first | refine SemW.run tblOk ?_ | refine jA (by omega) ?_ | refine jB (by omega) ?_ | refine jC (by omega) ?_ | refine jD (by omega) ?_ | refine jE rfl ?_ | refine jF (by omega) ?_ | (refine jG ?_; first | with_reducible (first | refine jH ?_ | refine jI ?_ | refine jJ ?_ | refine jK ?_ | refine jL ?_) | refine jM (by omega) ?_ | refine jN (by omega) ?_ | with_reducible refine jM rfl ?_ | refine jM (by assumption) ?_ | refine jN (by assumption) ?_ | refine jM (by decide) ?_ | refine jN (by decide) ?_) | refine jF (ptr_ok tblOk rfl rfl) ?_ | refine jO (fun _ => by kernel_rfl) ?_ | refine jF (by decide) ?_ | refine hS.ld rfl ?_ | refine hS.ldn rfl ?_ | (refine hS.st rfl rfl ?_; intro _ hS))
        refine ⟨a, c, L, by rw [hle], ?_, hS⟩
        rw [← hlb, ← hle]
        exact hv
end Go.Proofs.YthpmmfapolcaiaaGreatDoor

/- Plain: replies, their bytes, how they are read. -/
namespace Go.Proofs.YthpmmfapolcaiaaGreatDoor
open Go Go.Eng Go.Proofs

structure ReplyM where
  code : Int
  ids : List Int
  n0 : Int
  n1 : Int
  n2 : Int
  n3 : Int
  over : Bool
  pax : PaxM
  text : Bytes
structure ReplyM.ok (a : ReplyM) : Prop where
  code : i64ok a.code
  ids : ∀ z ∈ a.ids, i64ok z
  n0 : i64ok a.n0
  n1 : i64ok a.n1
  n2 : i64ok a.n2
  n3 : i64ok a.n3
  pax : a.pax.ok
/-- Ints of a passenger, in the order of its cells' bytes. -/
def paxI (p : PaxM) : List Int := [p.id, p.flight, p.cab, p.cls, p.status, p.tick, p.pass]
def replyB (a : ReplyM) : Bytes := intsB [a.code] ++ (numB a.ids.length ++ (intsB a.ids ++ (intsB [a.n0, a.n1, a.n2, a.n3] ++ (numB (marksN [a.over]) ++ (intsB (paxI a.pax) ++ (numB (marksN [a.pax.fit, a.pax.infant, a.pax.vol, a.pax.stb]) ++ (textB (seatB a.pax.num a.pax.c) ++ textB a.text)))))))
/-- Has the seat a text that says it? -/
def seatGood (n : Int) (c : Nat) : Bool := decide (seatB n c ≠ [45])
/-- What a seat's text says: nothing is the zero seat. -/
def seatS (x : Bytes) : Option (Int × Nat) := if x = [] then some (0, 0) else parseB x
theorem seatS_of {n : Int} {c : Nat} (h : seatGood n c = true) : seatS (seatB n c) = some (n, c) := by
  unfold seatGood at h
  have h := of_decide_eq_true h
  unfold seatB at h ⊢
  by_cases hz : n = 0 ∧ c = 0
  · rw [if_pos hz, hz.1, hz.2]; rfl
  · rw [if_neg hz] at h ⊢
    have hs : seatOk n c = true := by
      cases hs : seatOk n c with
      | true => rfl
      | false => exact absurd ((labelB_dash n c).2 hs) h
    have hl := (labelB_len n c).1
    unfold seatS
    rw [if_neg (by intro e; rw [e] at hl; exact absurd hl (by decide)), parseB_label hs]
theorem seatS_some {x : Bytes} {n : Int} {c : Nat} (h : seatS x = some (n, c)) : seatB n c = x ∧ seatGood n c = true ∧ i64ok n ∧ c < 256 := by
  unfold seatS at h
  split at h
  · next hx =>
    simp only [Option.some.injEq, Prod.mk.injEq] at h
    obtain ⟨rfl, rfl⟩ := h
    exact ⟨by rw [hx]; rfl, by decide, ok0, by omega⟩
  · next hx =>
    obtain ⟨h1, h2⟩ := parseB_some h
    obtain ⟨a1, a2, a3, a4⟩ := seatOk_iff.1 h1
    have e : seatB n c = x := by unfold seatB; rw [if_neg (by rintro ⟨h, -⟩; omega), h2]
    refine ⟨e, ?_, ⟨by omega, by omega⟩, by omega⟩
    unfold seatGood
    rw [e]
    refine decide_eq_true fun hd => ?_
    rw [← h2, labelB_dash, h1] at hd
    cases hd
/-- What is read of a payload: the reply without its seat, the seat's text. -/
def wReply (s : RB) : (ReplyM × Bytes) × RB :=
  tk (wInts 1 s) fun a s => tk (wNum s.t.length s) fun n s => tk (wInts n s) fun ids s => tk (wInts 4 s) fun x s => tk (wMarks 1 s) fun o s =>
  tk (wInts 7 s) fun p s => tk (wMarks 4 s) fun m s => tk (wText s) fun seat s => tk (wText s) fun t s =>
  ((⟨a.getD 0 0, ids, x.getD 0 0, x.getD 1 0, x.getD 2 0, x.getD 3 0, o.getD 0 false,
    ⟨p.getD 0 0, p.getD 1 0, p.getD 2 0, m.getD 0 false, m.getD 1 false, m.getD 2 false, m.getD 3 false, p.getD 3 0, p.getD 4 0, p.getD 5 0, p.getD 6 0, 0, 0⟩, t⟩, seat), s)
def withSeat (a : ReplyM) (n : Int) (c : Nat) : ReplyM := { a with pax := { a.pax with num := n, c := c } }
/-- The reply of a payload. -/
def replyS (t : Bytes) : Option ReplyM := tk (wReply ⟨t, false⟩) fun y s => match seatS y.2 with
  | none => none
  | some z => if s.bad = true ∨ s.t ≠ [] then none else some (withSeat y.1 z.1 z.2)
theorem all7 {a b c d e f g : Int} (ha : i64ok a) (hb : i64ok b) (hc : i64ok c) (hd : i64ok d) (he : i64ok e) (hf : i64ok f) (hg : i64ok g) : [a, b, c, d, e, f, g].length = 7 ∧ ∀ z ∈ [a, b, c, d, e, f, g], i64ok z := ⟨rfl, by
  intro z hz
  rcases List.mem_cons.1 hz with rfl | hz
  · exact ha
  rcases List.mem_cons.1 hz with rfl | hz
  · exact hb
  rcases List.mem_cons.1 hz with rfl | hz
  · exact hc
  · exact (all4 hd he hf hg).2 z hz⟩
theorem paxOk_of {l : List Int} {m : List Bool} (hl : ∀ z ∈ l, i64ok z) {n : Int} {c : Nat} (hn : i64ok n) (hc : c < 256) : PaxM.ok ⟨l.getD 0 0, l.getD 1 0, l.getD 2 0, m.getD 0 false, m.getD 1 false, m.getD 2 false, m.getD 3 false, l.getD 3 0, l.getD 4 0, l.getD 5 0, l.getD 6 0, n, c⟩ :=
  ⟨getD_ok hl 0, getD_ok hl 1, getD_ok hl 2, getD_ok hl 3, getD_ok hl 4, getD_ok hl 5, getD_ok hl 6, hn, hc⟩
/-- What a reading of a reply's fields answers. -/
structure ReplyR (s : RB) (y : (ReplyM × Bytes) × RB) : Prop where
  bad : s.bad = false
  t : ∀ n c, seatB n c = y.1.2 → s.t = replyB (withSeat y.1.1 n c) ++ y.2.t
  ok : ∀ n c, i64ok n → c < 256 → (withSeat y.1.1 n c).ok
theorem intsB_min (l : List Int) : l.length ≤ (intsB l).length := by
  induction l with
  | nil => exact Nat.zero_le _
  | cons z l ih =>
    have := numB_pos (zig z)
    simp only [intsB, List.map_cons, List.flatten_cons, List.length_append, List.length_cons, intB] at ih ⊢
    omega
theorem wReply_good {s : RB} (hs : s.t.length ≤ 70368744177664) (h : (wReply s).2.bad = false) : ReplyR s (wReply s) := by
  have hle : (wInts 1 s).2.t.length ≤ s.t.length := by
    show (intO s.t).2.2.length ≤ _
    exact intO_len s.t
  unfold wReply tk at h ⊢
  simp only at h ⊢
  obtain ⟨h9, e9, o9⟩ := wText_codec.good _ h
  obtain ⟨h8, e8, o8⟩ := wText_codec.good _ h9
  obtain ⟨h7, e7, o7⟩ := (wMarks_codec 4 (by omega)).good _ h8
  obtain ⟨h6, e6, o6⟩ := (wInts_codec 7).good _ h7
  obtain ⟨h5, e5, o5⟩ := (wMarks_codec 1 (by omega)).good _ h6
  obtain ⟨h4, e4, o4⟩ := (wInts_codec 4).good _ h5
  obtain ⟨h3, e3, o3⟩ := (wInts_codec _).good _ h4
  obtain ⟨h2, e2, o2⟩ := (wNum_codec _ (by omega)).good _ h3
  obtain ⟨h1, e1, o1⟩ := (wInts_codec 1).good _ h2
  refine ⟨h1, fun n c hn => ?_, fun n c hn hc => ?_⟩
  · simp only at hn
    unfold replyB withSeat paxI
    simp only
    rw [← lst1 0 o1.1, ← lst4 0 o4.1, ← lst1 false o5, ← lst7 0 o6.1, ← lst4 false o7, hn, o3.1]
    conv => lhs; rw [e1, e2, e3, e4, e5, e6, e7, e8, e9]
    simp only [List.append_assoc]
  · unfold withSeat
    simp only
    exact ⟨getD_ok o1.2 0, o3.2, getD_ok o4.2 0, getD_ok o4.2 1, getD_ok o4.2 2, getD_ok o4.2 3, paxOk_of o6.2 hn hc⟩
theorem wReply_app {a : ReplyM} (ha : a.ok) (hl : (replyB a).length ≤ 70368744177664) : wReply ⟨replyB a, false⟩ = ((withSeat a 0 0, seatB a.pax.num a.pax.c), ⟨[], false⟩) := by
  have hsl := seatB_len a.pax.num a.pax.c
  have hm := intsB_min a.ids
  unfold replyB at hl
  simp only [List.length_append] at hl
  have htx : (textB a.text).length = (numB a.text.length).length + a.text.length := by simp [textB]
  have e : replyB a = intsB [a.code] ++ (numB a.ids.length ++ (intsB a.ids ++ (intsB [a.n0, a.n1, a.n2, a.n3] ++ (numB (marksN [a.over]) ++ (intsB (paxI a.pax) ++ (numB (marksN [a.pax.fit, a.pax.infant, a.pax.vol, a.pax.stb]) ++ (textB (seatB a.pax.num a.pax.c) ++ (textB a.text ++ [])))))))) := by rw [List.append_nil]; rfl
  rw [e]
  have hp := ha.pax
  unfold wReply
  unfold tk
  rw [(wInts_codec 1).app _ _ (all1 ha.code)]
  simp only
  rw [(wNum_codec _ (by simp only [List.length_append, List.length_nil]; omega)).app _ _ (by simp only [List.length_append, List.length_nil]; omega)]
  simp only
  rw [(wInts_codec _).app _ _ ⟨rfl, ha.ids⟩]
  simp only
  rw [(wInts_codec 4).app _ _ (all4 ha.n0 ha.n1 ha.n2 ha.n3)]
  simp only
  rw [(wMarks_codec 1 (by omega)).app _ _ rfl]
  simp only
  rw [(wInts_codec 7).app _ _ (show (paxI a.pax).length = 7 ∧ _ from all7 hp.id hp.flight hp.cab hp.cls hp.status hp.tick hp.pass)]
  simp only
  rw [(wMarks_codec 4 (by omega)).app _ _ rfl]
  simp only
  rw [wText_codec.app _ _ (by omega)]
  simp only
  rw [wText_codec.app _ _ (by omega)]
  rfl
def RightR (a : ReplyM) : Prop := seatGood a.pax.num a.pax.c = true
theorem withSeat_self (a : ReplyM) : withSeat (withSeat a 0 0) a.pax.num a.pax.c = a := rfl
theorem replyS_iff {t : Bytes} (ht : t.length ≤ 70368744177664) {a : ReplyM} : replyS t = some a ↔ t = replyB a ∧ a.ok ∧ RightR a := by
  constructor
  · intro h
    unfold replyS tk at h
    simp only at h
    split at h
    · cases h
    · next z hz =>
      split at h
      · cases h
      · next h3 =>
        obtain ⟨h3, h4⟩ := not_or.1 h3
        have h3 := Bool.eq_false_iff.2 h3
        have h4 := Decidable.not_not.1 h4
        have hR := wReply_good ht h3
        obtain ⟨s1, s2, s3, s4⟩ := seatS_some hz
        simp only [Option.some.injEq] at h
        subst h
        refine ⟨?_, hR.ok _ _ s3 s4, s2⟩
        have := hR.t _ _ s1
        rw [h4, List.append_nil] at this
        exact this
  · rintro ⟨rfl, h1, h2⟩
    unfold replyS
    rw [wReply_app h1 ht]
    unfold tk
    simp only
    rw [seatS_of h2]
    simp [withSeat_self]
end Go.Proofs.YthpmmfapolcaiaaGreatDoor

/- Plain: commands and replies read loosely, and checked by writing them again. -/
namespace Go.Proofs.YthpmmfapolcaiaaGreatDoor
open Go Go.Eng Go.Proofs

theorem lRow_app (a : RowM) (r : Bytes) (h : a.ok ∧ a.seats.length < 18446744073709551616) : lRow ⟨rowB a ++ r, false⟩ = (a, ⟨r, false⟩) := by
  have e : rowB a ++ r = intsB [a.num, a.cab, a.zone] ++ (numB (marksN [a.exit]) ++ (textB a.seats ++ r)) := by simp [rowB, textsB]
  have hm := marksN_lt [a.exit]
  rw [e]
  unfold lRow tk
  rw [(wInts_codec 3).app _ _ (all3 h.1.num h.1.cab h.1.zone)]
  simp only
  rw [rbNum_app _ _ (by simp only [List.length_singleton] at hm; omega)]
  simp only
  rw [wText_codec.app _ _ h.2]
  have e2 : decide (marksN [a.exit] = 1) = a.exit := by cases a.exit <;> rfl
  rw [e2]
  rfl
theorem lRows_app : ∀ (m : List RowM) (r : Bytes) (l : List RowM), (∀ x ∈ m, x.ok ∧ x.seats.length < 18446744073709551616) → lRows m.length (⟨rowsBt m ++ r, false⟩, l) = (⟨r, false⟩, l ++ m)
  | [], r, l, _ => by simp [lRows, rowsBt]
  | f :: m, r, l, h => by
    rw [List.length_cons]
    unfold lRows
    rw [if_neg nofun]
    have e : rowsBt (f :: m) ++ r = rowB f ++ (rowsBt m ++ r) := by simp [rowsBt]
    rw [e, lRow_app f _ (h f List.mem_cons_self)]
    simp only
    rw [lRows_app m r _ fun g hg => h g (List.mem_cons_of_mem _ hg)]
    simp
def lField : CK → Int → Int → RB → CmdM × RB
  | .equip, k, q, s => tk (wInts 1 s) fun l s => ({ hdC k q with id := l.getD 0 0, rows := (lRowsT s.t).2 }, ⟨(lRowsT s.t).1.t, s.bad || (lRowsT s.t).1.bad⟩)
  | .flight, k, q, s => tk (wInts 2 s) fun l s => tk (wInts 4 s) fun x s => ({ hdC k q with id := l.getD 0 0, eq := l.getD 1 0, l0 := x.getD 0 0, l1 := x.getD 1 0, l2 := x.getD 2 0, l3 := x.getD 3 0 }, s)
  | .book, k, q, s => tk (wInts 4 s) fun l s => tk (rbNum s) fun n s => ({ hdC k q with id := l.getD 0 0, fl := l.getD 1 0, wcab := l.getD 2 0, cls := l.getD 3 0, fit := (bitsN 4 n).getD 0 false, inf := (bitsN 4 n).getD 1 false, vol := (bitsN 4 n).getD 2 false, stb := (bitsN 4 n).getD 3 false }, s)
  | .seat, k, q, s => tk (wInts 2 s) fun l s => tk (rbNum s) fun n s => ({ hdC k q with id := l.getD 0 0, num := l.getD 1 0, lt := n % 256 }, s)
  | .swap, k, q, s => tk (wInts 2 s) fun l s => ({ hdC k q with fl := l.getD 0 0, eq := l.getD 1 0 }, s)
  | .fl, k, q, s => tk (wInts 1 s) fun l s => ({ hdC k q with fl := l.getD 0 0 }, s)
  | .board, k, q, s => tk (wText s) fun x s => ({ hdC k q with text := x }, s)
  | .id, k, q, s => tk (wInts 1 s) fun l s => ({ hdC k q with id := l.getD 0 0 }, s)
theorem lField_ok (k : CK) {kd q : Int} (hk : i64ok kd) (hq : i64ok q) (s : RB) : (lField k kd q s).1.ok := by
  have h0 := hdC_ok hk hq
  cases k
  · exact { h0 with id := getD_ok (wInts_ok 1 s) 0, rows := lRows_ok _ _ _ (by nofun) }
  · exact { h0 with id := getD_ok (wInts_ok 2 s) 0, eq := getD_ok (wInts_ok 2 s) 1, l0 := getD_ok (wInts_ok 4 _) 0, l1 := getD_ok (wInts_ok 4 _) 1, l2 := getD_ok (wInts_ok 4 _) 2, l3 := getD_ok (wInts_ok 4 _) 3 }
  · exact { h0 with id := getD_ok (wInts_ok 4 s) 0, fl := getD_ok (wInts_ok 4 s) 1, wcab := getD_ok (wInts_ok 4 s) 2, cls := getD_ok (wInts_ok 4 s) 3 }
  · exact { h0 with id := getD_ok (wInts_ok 2 s) 0, num := getD_ok (wInts_ok 2 s) 1, lt := Nat.mod_lt _ (by decide) }
  · exact { h0 with fl := getD_ok (wInts_ok 2 s) 0, eq := getD_ok (wInts_ok 2 s) 1 }
  · exact { h0 with fl := getD_ok (wInts_ok 1 s) 0 }
  · exact { h0 with kind := hk }
  · exact { h0 with id := getD_ok (wInts_ok 1 s) 0 }
theorem lField_app {k : CK} {c : CmdM} (hc : c.ok) (hr : ∀ x ∈ c.rows, x.seats.length < 18446744073709551616) (ht : c.text.length < 18446744073709551616) (hrl : c.rows.length < 18446744073709551616) : lField k c.kind c.req ⟨fieldsB k c, false⟩ = (bareF k c, ⟨[], false⟩) := by
  rw [← List.append_nil (fieldsB k c)]
  cases k
  · simp only [fieldsB, List.append_assoc]
    unfold lField tk
    simp only
    rw [(wInts_codec 1).app _ _ (all1 hc.id)]
    simp only
    unfold lRowsT
    rw [rbNum_app _ _ hrl]
    simp only
    rw [lRows_app _ _ _ fun x hx => ⟨hc.rows x hx, hr x hx⟩]
    rfl
  · simp only [fieldsB, List.append_assoc]
    unfold lField tk
    simp only
    rw [(wInts_codec 2).app _ _ (all2 hc.id hc.eq)]
    simp only
    rw [(wInts_codec 4).app _ _ (all4 hc.l0 hc.l1 hc.l2 hc.l3)]
    rfl
  · have hm := marksN_lt [c.fit, c.inf, c.vol, c.stb]
    simp only [fieldsB, List.append_assoc]
    unfold lField tk
    simp only
    rw [(wInts_codec 4).app _ _ (all4 hc.id hc.fl hc.wcab hc.cls)]
    simp only
    rw [rbNum_app _ _ (by simp only [List.length_cons, List.length_nil] at hm; omega)]
    simp only
    rw [show bitsN 4 (marksN [c.fit, c.inf, c.vol, c.stb]) = _ from bits_marksN [c.fit, c.inf, c.vol, c.stb]]
    rfl
  · have h256 := hc.lt
    simp only [fieldsB, List.append_assoc]
    unfold lField tk
    simp only
    rw [(wInts_codec 2).app _ _ (all2 hc.id hc.num)]
    simp only
    rw [rbNum_app _ _ (by omega)]
    simp only
    rw [Nat.mod_eq_of_lt h256]
    rfl
  · simp only [fieldsB]
    unfold lField tk
    simp only
    rw [(wInts_codec 2).app _ _ (all2 hc.fl hc.eq)]
    rfl
  · simp only [fieldsB]
    unfold lField tk
    simp only
    rw [(wInts_codec 1).app _ _ (all1 hc.fl)]
    rfl
  · simp only [fieldsB]
    unfold lField tk
    simp only
    rw [wText_codec.app _ _ ht]
    rfl
  · simp only [fieldsB]
    unfold lField tk
    simp only
    rw [(wInts_codec 1).app _ _ (all1 hc.id)]
    rfl
def lCmd (t : Bytes) : Option (CmdM × RB) := tk (rbNum ⟨t, false⟩) fun k s => if k < 1 ∨ 15 < k then none else tk (rbInt s) fun q s => some (lField (ckOf k) k q s)
theorem lCmd_ok {t : Bytes} {y : CmdM × RB} (h : lCmd t = some y) : y.1.ok := by
  unfold lCmd tk at h
  simp only at h
  split at h
  · cases h
  · simp only [Option.some.injEq] at h
    subst h
    exact lField_ok _ ⟨by omega, by omega⟩ (rbInt_ok' _) _
theorem lCmd_app {c : CmdM} (hc : c.ok) (hR : RightC c) : lCmd (cmdB c) = some (c, ⟨[], false⟩) := by
  obtain ⟨h1, h2, h3, h4⟩ := hR
  obtain ⟨p1, p2, p3⟩ := small_iff.1 h3
  unfold lCmd cmdB
  rw [rbNum_app _ _ (by omega)]
  unfold tk
  simp only
  rw [if_neg (by omega), rbInt_app _ _ hc.req]
  simp only
  have e : ((c.kind.toNat : Nat) : Int) = c.kind := by omega
  rw [e, lField_app hc (fun x hx => by have := p3 x hx; omega) (by omega) (by omega), h4]
/-- Read loosely, checked by writing it again. -/
def checkC (t : Bytes) (o : Option (CmdM × RB)) : Option CmdM := match o with
  | none => none
  | some y => if y.2.bad = false ∧ RightC y.1 ∧ cmdB y.1 = t then some y.1 else none
theorem check_cmd {t : Bytes} (ht : t.length ≤ 70368744177664) : checkC t (lCmd t) = cmdS t := by
  cases h : cmdS t with
  | some c =>
    obtain ⟨e, h1, h2⟩ := (cmdS_iff ht).1 h
    have := lCmd_app h1 h2
    rw [← e] at this
    rw [this]
    exact if_pos ⟨rfl, h2, e.symm⟩
  | none =>
    cases h2 : lCmd t with
    | none => rfl
    | some y =>
      refine if_neg ?_
      rintro ⟨h3, h4, h5⟩
      have := (cmdS_iff ht).2 ⟨h5.symm, lCmd_ok h2, h4⟩
      rw [h] at this; cases this
/-- A reply, read loosely. -/
def lReply (t : Bytes) : ReplyM × RB := tk (rbInt ⟨t, false⟩) fun code s => tk (rbNum s) fun n s => match rdI n (s, []) with
  | (s, ids) => tk (wInts 4 s) fun x s => tk (rbNum s) fun o s => tk (rbInt s) fun id s => match lPax s.t id with
    | (p, z) => tk (wText ⟨z.t, s.bad || z.bad⟩) fun tx s => (⟨code, ids, x.getD 0 0, x.getD 1 0, x.getD 2 0, x.getD 3 0, decide (o = 1), p, tx⟩, s)
theorem rdI_oks : ∀ (n : Nat) (s : RB) (l : List Int), (∀ z ∈ l, i64ok z) → ∀ z ∈ (rdI n (s, l)).2, i64ok z
  | 0, s, l, h => h
  | n + 1, s, l, h => by
    unfold rdI
    split
    · exact h
    · refine rdI_oks n _ _ fun f hf => ?_
      rcases List.mem_append.1 hf with hf | hf
      · exact h f hf
      · rw [List.mem_singleton] at hf; subst hf; exact rbInt_ok' s
theorem lReply_ok (t : Bytes) : (lReply t).1.ok :=
  ⟨rbInt_ok' _, rdI_oks _ _ _ (by nofun), getD_ok (wInts_ok 4 _) 0, getD_ok (wInts_ok 4 _) 1, getD_ok (wInts_ok 4 _) 2, getD_ok (wInts_ok 4 _) 3, lPax_ok _ (rbInt_ok' _)⟩
theorem all6 {a b c d e f : Int} (ha : i64ok a) (hb : i64ok b) (hc : i64ok c) (hd : i64ok d) (he : i64ok e) (hf : i64ok f) : [a, b, c, d, e, f].length = 6 ∧ ∀ z ∈ [a, b, c, d, e, f], i64ok z := ⟨rfl, by
  intro z hz
  rcases List.mem_cons.1 hz with rfl | hz
  · exact ha
  rcases List.mem_cons.1 hz with rfl | hz
  · exact hb
  · exact (all4 hc hd he hf).2 z hz⟩
theorem parseO_seat {n : Int} {c : Nat} (h : seatGood n c = true) : (parseO (seatB n c)).1 = n ∧ (parseO (seatB n c)).2.1 = c ∧ (!(parseO (seatB n c)).2.2 && decide (seatB n c ≠ [])) = false := by
  have hs := seatS_of h
  unfold seatS at hs
  split at hs
  · next he =>
    simp only [Option.some.injEq, Prod.mk.injEq] at hs
    rw [he]
    exact ⟨by rw [← hs.1]; rfl, by rw [← hs.2]; rfl, rfl⟩
  · unfold parseO
    rw [hs]
    exact ⟨rfl, rfl, rfl⟩
theorem lPax_app (p : PaxM) (r : Bytes) (hp : p.ok) (hs : seatGood p.num p.c = true) : lPax (intsB [p.flight, p.cab, p.cls, p.status, p.tick, p.pass] ++ (numB (marksN [p.fit, p.infant, p.vol, p.stb]) ++ (textB (seatB p.num p.c) ++ r))) p.id = (p, ⟨r, false⟩) := by
  have hm := marksN_lt [p.fit, p.infant, p.vol, p.stb]
  have hl := seatB_len p.num p.c
  obtain ⟨e1, e2, e3⟩ := parseO_seat hs
  unfold lPax tk
  rw [(wInts_codec 6).app _ _ (all6 hp.flight hp.cab hp.cls hp.status hp.tick hp.pass)]
  simp only
  rw [rbNum_app _ _ (by simp only [List.length_cons, List.length_nil] at hm; omega)]
  simp only
  rw [show bitsN 4 (marksN [p.fit, p.infant, p.vol, p.stb]) = _ from bits_marksN [p.fit, p.infant, p.vol, p.stb], wText_codec.app _ _ (by omega)]
  simp only
  rw [e1, e2, e3]
  rfl
theorem lReply_app {a : ReplyM} (ha : a.ok) (hR : RightR a) (hl : (replyB a).length ≤ 70368744177664) : lReply (replyB a) = (a, ⟨[], false⟩) := by
  have hp := ha.pax
  have hm := intsB_min a.ids
  have hmk := marksN_lt [a.over]
  have htx : (textB a.text).length = (numB a.text.length).length + a.text.length := by simp [textB]
  have e : replyB a = intB a.code ++ (numB a.ids.length ++ (intsB a.ids ++ (intsB [a.n0, a.n1, a.n2, a.n3] ++ (numB (marksN [a.over]) ++ (intB a.pax.id ++ (intsB [a.pax.flight, a.pax.cab, a.pax.cls, a.pax.status, a.pax.tick, a.pax.pass] ++ (numB (marksN [a.pax.fit, a.pax.infant, a.pax.vol, a.pax.stb]) ++ (textB (seatB a.pax.num a.pax.c) ++ (textB a.text ++ []))))))))) := by
    unfold replyB paxI intsB
    simp only [List.map_cons, List.map_nil, List.flatten_cons, List.flatten_nil, List.append_nil, List.append_assoc]
  unfold replyB at hl
  simp only [List.length_append] at hl
  rw [e]
  unfold lReply
  unfold tk
  rw [rbInt_app _ _ ha.code]
  simp only
  rw [rbNum_app _ _ (by omega)]
  simp only
  rw [rdI_app _ _ _ ha.ids]
  simp only
  rw [(wInts_codec 4).app _ _ (all4 ha.n0 ha.n1 ha.n2 ha.n3)]
  simp only
  rw [rbNum_app _ _ (by simp only [List.length_singleton] at hmk; omega)]
  simp only
  rw [rbInt_app _ _ hp.id]
  simp only
  rw [lPax_app _ _ hp hR]
  simp only
  rw [show (⟨textB a.text ++ [], false || false⟩ : RB) = ⟨textB a.text ++ [], false⟩ from rfl, wText_codec.app _ _ (by omega)]
  have e2 : decide (marksN [a.over] = 1) = a.over := by cases a.over <;> rfl
  rw [e2]
  rfl
def checkR (t : Bytes) (y : ReplyM × RB) : Option ReplyM := if y.2.bad = false ∧ seatGood y.1.pax.num y.1.pax.c = true ∧ replyB y.1 = t then some y.1 else none
theorem check_reply {t : Bytes} (ht : t.length ≤ 70368744177664) : checkR t (lReply t) = replyS t := by
  cases h : replyS t with
  | some a =>
    obtain ⟨e, h1, h2⟩ := (replyS_iff ht).1 h
    have := lReply_app h1 h2 (by rw [← e]; exact ht)
    rw [← e] at this
    rw [this]
    exact if_pos ⟨rfl, h2, e.symm⟩
  | none =>
    refine if_neg ?_
    rintro ⟨h3, h4, h5⟩
    have := (replyS_iff ht).2 ⟨h5.symm, lReply_ok t, h4⟩
    rw [h] at this; cases this
end Go.Proofs.YthpmmfapolcaiaaGreatDoor

/- Own slices that begin anywhere in their block. -/
namespace Go.Eng
open Go

inductive VecO (e : TypeId) : Option Addr → Nat → Nat → List Value → Heap → Prop where
  | nil : VecO e none 0 0 [] []
  | row (g : Nat) (pre xs l post : List Value) (n cap : Nat) (fz : Nat × Nat) (hf : fz.2 ≤ pre.length ∨ (pre ++ (xs ++ (l ++ post))).length ≤ fz.1) (hx : xs.length = n) (hl : xs.length + l.length = cap) : VecO e (some ⟨g, pre.length, none⟩) n cap xs [(g, .cells ⟨pre ++ (xs ++ (l ++ post))⟩ e fz)]
theorem VecO.of {e : TypeId} {a : Option Addr} {n cap : Nat} {xs : List Value} {L : Heap} (h : Vec e 1 a n cap xs L) : VecO e a n cap xs L := by
  cases h with
  | nil => exact .nil
  | row g n cap xs l hx hl hn =>
    have := VecO.row (e := e) g [] xs l [] n cap (0, 0) (.inl (Nat.zero_le _)) (by omega) (by omega)
    simpa using this
theorem VecO.len {e : TypeId} {a : Option Addr} {n cap : Nat} {xs : List Value} {L : Heap} (h : VecO e a n cap xs L) : xs.length = n ∧ n ≤ cap := by
  cases h with
  | nil => exact ⟨rfl, Nat.le_refl _⟩
  | row g pre xs l post n cap fz hf hx hl => exact ⟨hx, by omega⟩
theorem VecO.pos {e : TypeId} {a : Option Addr} {n cap : Nat} {xs : List Value} {L : Heap} (h : VecO e a n cap xs L) (hn : 0 < n) : ∃ b off, a = some ⟨b, off, none⟩ := by
  cases h with
  | nil => omega
  | row g pre xs l post n cap fz hf hx hl => exact ⟨g, _, rfl⟩
theorem VecO.arr {e : TypeId} {a : Option Addr} {n cap : Nat} {xs : List Value} {L : Heap} (h : VecO e a n cap xs L) {w0 w : World} {T T' : List Nat} {H : Heap} {F : Heap → Heap} (hS : St w0 T H w) [hc : Chunk H L F]
    (hT : ∀ b ∈ keys L, b ∉ T') : Arr w T' a xs := by
  cases h with
  | nil => exact Arr.nil _ _ _
  | row g pre xs l post n cap fz hf hx hl =>
    intro j x hj
    have hm := hS.part (L := [(g, Obj.cells ⟨pre ++ (xs ++ (l ++ post))⟩ e fz)]).own _ (List.mem_singleton.2 rfl)
    refine ⟨g, pre.length, rfl, hT g (by simp [keys]), ?_⟩
    have hlt : j < xs.length := (List.getElem?_eq_some_iff.1 hj).1
    simp only [World.cell?, hm]
    simp only [Option.isSome_none, Bool.false_eq_true, if_false]
    rw [show (Array.mk (pre ++ (xs ++ (l ++ post))))[pre.length + j]? = (pre ++ (xs ++ (l ++ post)))[pre.length + j]? by simp, List.getElem?_append_right (by omega), show pre.length + j - pre.length = j by omega, List.getElem?_append_left hlt]
    exact hj
/-- The rest behind k elements. -/
theorem VecO.drop {e : TypeId} {b off n cap k : Nat} {xs : List Value} {L : Heap} (h : VecO e (some ⟨b, off, none⟩) n cap xs L) (hk : k ≤ n) : VecO e (subA b off k cap 1) (n - k) (cap - k) (xs.drop k) L := by
  cases h with
  | row g pre xs l post n cap fz hf hx hl =>
    unfold subA
    split
    · rename_i hc
      have h1 : l = [] := List.eq_nil_of_length_eq_zero (by omega)
      have h2 : xs.drop k = [] := List.drop_eq_nil_iff.2 (by omega)
      have := VecO.row (e := e) b pre [] [] (xs ++ (l ++ post)) 0 0 fz hf rfl rfl
      rw [h2, show n - k = 0 by omega, show cap - k = 0 by omega]
      simpa using this
    · have e2 : pre ++ xs.take k ++ (xs.drop k ++ (l ++ post)) = pre ++ (xs ++ (l ++ post)) := by
        rw [List.append_assoc, ← List.append_assoc (xs.take k), List.take_append_drop]
      have := VecO.row (e := e) b (pre ++ xs.take k) (xs.drop k) l post (n - k) (cap - k) fz (by
        rw [e2]; rcases hf with hf | hf
        · exact .inl (by rw [List.length_append]; omega)
        · exact .inr hf) (by simp; omega) (by simp; omega)
      have e1 : (pre ++ xs.take k).length = pre.length + k * 1 := by simp; omega
      rw [e1, e2] at this
      exact this

section
variable {P : Program} {T0 : Tbl}
theorem St.appO (hT : TOk P T0) {t e ty : TypeId} {i ie : TI} (hi : tf T0 t = some i) (hk : i.k = .slice e 1) (hie : tf T0 e = some ie)
    (hz : ie.zero.cells.size = 1) {w0 w : World} {T : List Nat} {H L : Heap} {F : Heap → Heap} (hS : St w0 T H w) {a : Option Addr} {n cap : Nat} {xs : List Value} (hv : VecO e a n cap xs L) [hc : Chunk H L F]
    {b : Option Addr} {m c : Nat} {news : List Value} (hm : news.length = m) (ha : Arr w [] b news) (h1 : news.all Value.oneCell' = true)
    (hlen : (n + m) * ie.bytes ≤ 140737488355328) (hlen' : n + m ≤ 9223372036854775807) {K : Value → World → Prop}
    (h : ∀ a' cap' L' w', VecO e a' (n + m) cap' (xs ++ news) L' → St w0 T (F L') w' → K (.slice a' (n + m) cap') w') :
    RunG P (Builtin.append_ ⟨[t, t]⟩ ty ⟨[.slice a n cap, .slice b m c]⟩) w K := by
  have ht := und_of hT hi
  rw [hk] at ht
  obtain ⟨ht, hes⟩ := ht
  obtain ⟨inf, hinf, hzz, hs1, hby⟩ := info_of hT hie
  have hsz : inf.size = 1 := by rw [hinf] at hes; simpa using hes
  have hpart : Holds L w := hS.part (L := L)
  have hin := St.enter hpart
  have hsrc : ∀ w', w'.heap = w.heap → (Builtin.firstCells 1 m (.slice b m c)).run P w' = .ok ⟨news⟩ w' := fun w' hw => ha.firstCells (sz := 1) (by omega) hw
  have step : ∀ o, St w0 T (F [(w.heap.size, o)]) (w.drew.alloc o) := fun o =>
    hS.call (L := L) (((hin.drew).alloc o).sub (List.Sublist.cons_cons _ (List.nil_sublist _)))
  cases hv with
  | nil => exact St.app (sz := 1) hT hi hk hie hz hS Vec.nil (by omega) ha h1 hlen hlen' fun a' cap' L' w' h2 h3 => h a' cap' L' w' (VecO.of h2) h3
  | row g pre xs l post n cap fz hf hx hl =>
    have hg : w.heap[g]? = some (.cells ⟨pre ++ (xs ++ (l ++ post))⟩ e fz) := hpart.own _ (List.mem_singleton.2 rfl)
    by_cases hroom : n + m ≤ cap
    · have hst := run_storeCells_fz P g (pre.length + n * 1) e fz news 0 ⟨pre ++ (xs ++ (l ++ post))⟩ w hg (by simp only [List.length_append] at hf; omega) (by simp; omega) (fun v hv => List.all_eq_true.1 h1 v hv)
      simp only [Nat.add_zero] at hst
      have e1 : (pre ++ (xs ++ (l ++ post))).take (pre.length + n * 1) = pre ++ xs := by
        rw [← List.append_assoc, show pre.length + n * 1 = (pre ++ xs).length by simp; omega, List.take_left]
      have e2 : (pre ++ (xs ++ (l ++ post))).drop (pre.length + n * 1 + news.length) = l.drop m ++ post := by
        rw [← List.append_assoc, show pre.length + n * 1 + news.length = (pre ++ xs).length + m by simp; omega, List.drop_append, List.drop_eq_nil_of_le (by omega), List.nil_append,
          show (pre ++ xs).length + m - (pre ++ xs).length = m by omega, List.drop_append_of_le_length (by omega)]
      have e3 : pre ++ xs ++ news ++ (l.drop m ++ post) = pre ++ ((xs ++ news) ++ (l.drop m ++ post)) := by simp
      have hv2 := VecO.row (e := e) g pre (xs ++ news) (l.drop m) post (n + m) cap fz (by simp only [List.length_append, List.length_drop] at hf ⊢; omega) (by simp; omega) (by simp; omega)
      refine RunG.of ?_ (h (some ⟨g, pre.length, none⟩) cap _ (w.setRow g ⟨pre ++ ((xs ++ news) ++ (l.drop m ++ post))⟩) hv2 ?_)
      · simp only [e1, e2] at hst
        rw [← e3]
        simp [Builtin.append_, run_underlying ht, sizeOf, typeInfo, hinf, hsz, Builtin.lenOf, hroom, hsrc w rfl, Addr.add_eq]
        rw [show pre.length + n = pre.length + n * 1 by omega, hst]
        simp
      · exact hS.call (L := [(g, .cells ⟨pre ++ (xs ++ (l ++ post))⟩ e fz)]) (hin.setRow (b := g) (l := pre ++ (xs ++ (l ++ post))) (l' := pre ++ ((xs ++ news) ++ (l.drop m ++ post))))
    · have hge := grownCap_ge w (n + m) cap e
      have h3 : ¬ (9223372036854775807 < ((n : Int) + (m : Int))) := by omega
      have h4 : ¬ (281474976710656 < Builtin.nextslicecap (n + m) cap * inf.bytes) := by
        have := growslice_fits (need := n + m) (old := cap) (bytes := inf.bytes) (by omega) (by rw [hby]; exact hlen)
        omega
      have h5 := hsrc w.drew rfl
      have hfo := run_firstCells_some (P := P) w.drew 1 n ⟨g, pre.length, none⟩ n cap xs (by omega) (fun j v hj => by
        rw [Addr.add_eq]
        have hlt : j < xs.length := (List.getElem?_eq_some_iff.1 hj).1
        have hg' : w.drew.heap[g]? = some (.cells ⟨pre ++ (xs ++ (l ++ post))⟩ e fz) := hg
        simp only [World.cell?, hg', Option.isSome_none, Bool.false_eq_true, if_false]
        rw [show (Array.mk (pre ++ (xs ++ (l ++ post))))[pre.length + j]? = (pre ++ (xs ++ (l ++ post)))[pre.length + j]? by simp, List.getElem?_append_right (by omega), show pre.length + j - pre.length = j by omega, List.getElem?_append_left hlt]
        exact hj)
      have hV := VecO.row (e := e) w.heap.size [] (xs ++ news) (Builtin.zeroCells ie.zero.cells (grownCap w (n + m) cap e - (n + m))).toList [] (n + m) (grownCap w (n + m) cap e) (0, 0) (.inl (Nat.zero_le _)) (by simp; omega) (by rw [zeroCells_len, hz]; simp; omega)
      refine RunG.of ?_ (h _ _ _ _ hV (step _))
      simp [Builtin.append_, run_underlying ht, sizeOf, typeInfo, zeroValue, hinf, hzz, hsz, Builtin.lenOf, hroom, h3, h4, Question.forced, hfo, h5, newRow, grownCap]
      congr 2
      apply Array.ext'
      simp
end
end Go.Eng

/- The document's numbers and texts (tarmacref01). -/
namespace Go.Proofs.YthpmmfapolcaiaaGreatDoor
open Go Go.Eng Go.Proofs

theorem tmodN (a b : Nat) : ((a : Int).tmod (b : Int)) = ((a % b : Nat) : Int) := rfl
theorem tdivN (a b : Nat) : ((a : Int).tdiv (b : Int)) = ((a / b : Nat) : Int) := rfl
theorem numB_len10' (n : Nat) (h : n < 18446744073709551616) : (numB n).length ≤ 10 := numB_len10 n (by omega)
set_option maxHeartbeats 1000000 in
theorem Fold_spec {w : World} (z : Int) (hz : i64ok z) : Cl Tryz.prog f_tarmacref01_Fold [.int .i64 z] w fun v w' => v = u64V (zig z) ∧ St w [] [] w' := by
  have hS := St.start w
  unfold i64ok at hz
  refine en_tarmacref01_Fold rfl ?_
  unfold u64V zig
  by_cases h0 : 0 ≤ z
  · rw [if_pos h0]
    repeat (first | refine SemW.run tblOk ?_ | refine jA (by omega) ?_ | refine jB (by omega) ?_ | refine jC (by omega) ?_ | refine jD (by omega) ?_ | refine jE rfl ?_ | refine jF (by omega) ?_ | (refine jG ?_; first | with_reducible (first | refine jH ?_ | refine jI ?_ | refine jJ ?_ | refine jK ?_ | refine jL ?_) | refine jM (by omega) ?_ | refine jN (by omega) ?_ | with_reducible refine jM rfl ?_ | refine jM (by assumption) ?_ | refine jN (by assumption) ?_ | refine jM (by decide) ?_ | refine jN (by decide) ?_) | refine jF (ptr_ok tblOk rfl rfl) ?_ | refine jO (fun _ => by kernel_rfl) ?_ | refine jF (by decide) ?_)
    exact ⟨congrArg (Value.int .u64) (by omega), hS⟩
  · rw [if_neg h0]
    repeat (first | refine SemW.run tblOk ?_ | refine jA (by omega) ?_ | refine jB (by omega) ?_ | refine jC (by omega) ?_ | refine jD (by omega) ?_ | refine jE rfl ?_ | refine jF (by omega) ?_ | (refine jG ?_; first | with_reducible (first | refine jH ?_ | refine jI ?_ | refine jJ ?_ | refine jK ?_ | refine jL ?_) | refine jM (by omega) ?_ | refine jN (by omega) ?_ | with_reducible refine jM rfl ?_ | refine jM (by assumption) ?_ | refine jN (by assumption) ?_ | refine jM (by decide) ?_ | refine jN (by decide) ?_) | refine jF (ptr_ok tblOk rfl rfl) ?_ | refine jO (fun _ => by kernel_rfl) ?_ | refine jF (by decide) ?_)
    exact ⟨congrArg (Value.int .u64) (by omega), hS⟩
set_option maxHeartbeats 1000000 in
theorem NumE_spec {w : World} (n0 : Nat) (hn0 : n0 < 18446744073709551616) : Cl Tryz.prog f_tarmacref01_Num [u64V n0] w fun v w' => v = Str (numB n0) ∧ St w [] [] w' := by
  have hS := St.start w
  unfold u64V
  refine en_tarmacref01_Num rfl ?_
  have hlen0 := numB_len10' n0 hn0
  repeat (first | refine SemW.run tblOk ?_ | refine jA (by omega) ?_ | refine jB (by omega) ?_ | refine jC (by omega) ?_ | refine jD (by omega) ?_ | refine jE rfl ?_ | refine jF (by omega) ?_ | (refine jG ?_; first | with_reducible (first | refine jH ?_ | refine jI ?_ | refine jJ ?_ | refine jK ?_ | refine jL ?_) | refine jM (by omega) ?_ | refine jN (by omega) ?_ | with_reducible refine jM rfl ?_ | refine jM (by assumption) ?_ | refine jN (by assumption) ?_ | refine jM (by decide) ?_ | refine jN (by decide) ?_) | refine jF (ptr_ok tblOk rfl rfl) ?_ | refine jO (fun _ => by kernel_rfl) ?_ | refine jF (by decide) ?_)
  refine SemW.loop (fun x : Nat × Bytes × Option Addr × Nat => [(0, .int .u64 x.1), (3, .slice x.2.2.1 x.2.1.length x.2.2.2)])
    (fun x w' => x.1 ≤ n0 ∧ numB n0 = x.2.1 ++ numB x.1 ∧ ∃ L, Vec T_uint8 1 x.2.2.1 x.2.1.length x.2.2.2 (x.2.1.map byteV) L ∧ St w [] L w') (fun x => x.1) (n0, [], none, 0)
    ⟨rfl, rfl, trivial⟩ ⟨Nat.le_refl _, rfl, [], Vec.nil, hS⟩ ?_
  rintro ⟨m, pre, a, c⟩ w1 ⟨hm, hpre, L, hv, hS⟩
  simp only at hm hpre hv hS ⊢
  have hpl : pre.length + (numB m).length ≤ 10 := by rw [← List.length_append, ← hpre]; exact hlen0
  have hp1 := numB_pos m
  by_cases h : m < 128
  · rw [numB_lt h] at hpre
    have hb : IntKind.u8.wrap (m : Int) = (((UInt8.ofNat m).toNat : Nat) : Int) := u8wrap m
    have hbm : (((UInt8.ofNat m).toNat : Nat) : Int) = (m : Int) := by rw [← hb, wrapU .u8 rfl]; congr 1; exact Nat.mod_eq_of_lt (by show m < 256; omega)
    repeat (first | refine SemW.run tblOk ?_ | refine jA (by omega) ?_ | refine jB (by omega) ?_ | refine jC (by omega) ?_ | refine jD (by omega) ?_ | refine jE rfl ?_ | refine jF (by omega) ?_ | (refine jG ?_; first | with_reducible (first | refine jH ?_ | refine jI ?_ | refine jJ ?_ | refine jK ?_ | refine jL ?_) | refine jM (by omega) ?_ | refine jN (by omega) ?_ | with_reducible refine jM rfl ?_ | refine jM (by assumption) ?_ | refine jN (by assumption) ?_ | refine jM (by decide) ?_ | refine jN (by decide) ?_) | refine jF (ptr_ok tblOk rfl rfl) ?_ | refine jO (fun _ => by kernel_rfl) ?_ | refine jF (by decide) ?_)
    refine hS.al ?_
    intro r w2 _ hS
    repeat (first | refine SemW.run tblOk ?_ | refine jA (by omega) ?_ | refine jB (by omega) ?_ | refine jC (by omega) ?_ | refine jD (by omega) ?_ | refine jE rfl ?_ | refine jF (by omega) ?_ | (refine jG ?_; first | with_reducible (first | refine jH ?_ | refine jI ?_ | refine jJ ?_ | refine jK ?_ | refine jL ?_) | refine jM (by omega) ?_ | refine jN (by omega) ?_ | with_reducible refine jM rfl ?_ | refine jM (by assumption) ?_ | refine jN (by assumption) ?_ | refine jM (by decide) ?_ | refine jN (by decide) ?_) | refine jF (ptr_ok tblOk rfl rfl) ?_ | refine jO (fun _ => by kernel_rfl) ?_ | refine jF (by decide) ?_)
    refine St.app (sz := 1) (m := 1) tblOk rfl rfl rfl rfl hS hv (news := [UInt8.ofNat m].map byteV) rfl (by
      have := hS.arr (b := r) (T' := []) (by simp)
      have e : ([.int .u8 (m : Int)] : List Value) = [UInt8.ofNat m].map byteV := by simp only [List.map_cons, List.map_nil, byteV, hbm]
      rw [← e]; exact this) rfl (by show (_ + _) * 1 ≤ _; omega) (by omega) ?_
    intro a' c' L' w3 hv' hS
    rw [← List.map_append, ← hpre] at hv'
    have hl : pre.length + 1 = (numB n0).length := by rw [hpre]; simp
    rw [hl] at hv' ⊢
    repeat (first | refine SemW.run tblOk ?_ | refine jA (by omega) ?_ | refine jB (by omega) ?_ | refine jC (by omega) ?_ | refine jD (by omega) ?_ | refine jE rfl ?_ | refine jF (by omega) ?_ | (refine jG ?_; first | with_reducible (first | refine jH ?_ | refine jI ?_ | refine jJ ?_ | refine jK ?_ | refine jL ?_) | refine jM (by omega) ?_ | refine jN (by omega) ?_ | with_reducible refine jM rfl ?_ | refine jM (by assumption) ?_ | refine jN (by assumption) ?_ | refine jM (by decide) ?_ | refine jN (by decide) ?_) | refine jF (ptr_ok tblOk rfl rfl) ?_ | refine jO (fun _ => by kernel_rfl) ?_ | refine jF (by decide) ?_)
    refine toStr (T := []) tblOk rfl rfl rfl rfl rfl rfl (bs := numB n0) rfl (fun w' hw' => by subst hw'; exact hv'.arr hS (by simp)) ?_
    repeat (first | refine SemW.run tblOk ?_ | refine jA (by omega) ?_ | refine jB (by omega) ?_ | refine jC (by omega) ?_ | refine jD (by omega) ?_ | refine jE rfl ?_ | refine jF (by omega) ?_ | (refine jG ?_; first | with_reducible (first | refine jH ?_ | refine jI ?_ | refine jJ ?_ | refine jK ?_ | refine jL ?_) | refine jM (by omega) ?_ | refine jN (by omega) ?_ | with_reducible refine jM rfl ?_ | refine jM (by assumption) ?_ | refine jN (by assumption) ?_ | refine jM (by decide) ?_ | refine jN (by decide) ?_) | refine jF (ptr_ok tblOk rfl rfl) ?_ | refine jO (fun _ => by kernel_rfl) ?_ | refine jF (by decide) ?_)
    exact ⟨rfl, hS.nil⟩
  · rw [numB_ge h] at hpre
    have e1 : ((m : Int).tmod 128) = ((m % 128 : Nat) : Int) := tmodN m 128
    have e2 : ((m : Int).tdiv 128) = ((m / 128 : Nat) : Int) := tdivN m 128
    have hbm : (((UInt8.ofNat (m % 128 + 128)).toNat : Nat) : Int) = ((m % 128 : Nat) : Int) + 128 := by
      have : (UInt8.ofNat (m % 128 + 128)).toNat = m % 128 + 128 := by simp; omega
      rw [this]; omega
    repeat (first | refine SemW.run tblOk ?_ | refine jA (by omega) ?_ | refine jB (by omega) ?_ | refine jC (by omega) ?_ | refine jD (by omega) ?_ | refine jE rfl ?_ | refine jF (by omega) ?_ | (refine jG ?_; first | with_reducible (first | refine jH ?_ | refine jI ?_ | refine jJ ?_ | refine jK ?_ | refine jL ?_) | refine jM (by omega) ?_ | refine jN (by omega) ?_ | with_reducible refine jM rfl ?_ | refine jM (by assumption) ?_ | refine jN (by assumption) ?_ | refine jM (by decide) ?_ | refine jN (by decide) ?_) | refine jF (ptr_ok tblOk rfl rfl) ?_ | refine jO (fun _ => by kernel_rfl) ?_ | refine jF (by decide) ?_)
    rw [e1]
    repeat (first | refine SemW.run tblOk ?_ | refine jA (by omega) ?_ | refine jB (by omega) ?_ | refine jC (by omega) ?_ | refine jD (by omega) ?_ | refine jE rfl ?_ | refine jF (by omega) ?_ | (refine jG ?_; first | with_reducible (first | refine jH ?_ | refine jI ?_ | refine jJ ?_ | refine jK ?_ | refine jL ?_) | refine jM (by omega) ?_ | refine jN (by omega) ?_ | with_reducible refine jM rfl ?_ | refine jM (by assumption) ?_ | refine jN (by assumption) ?_ | refine jM (by decide) ?_ | refine jN (by decide) ?_) | refine jF (ptr_ok tblOk rfl rfl) ?_ | refine jO (fun _ => by kernel_rfl) ?_ | refine jF (by decide) ?_)
    refine hS.al ?_
    intro r w2 _ hS
    repeat (first | refine SemW.run tblOk ?_ | refine jA (by omega) ?_ | refine jB (by omega) ?_ | refine jC (by omega) ?_ | refine jD (by omega) ?_ | refine jE rfl ?_ | refine jF (by omega) ?_ | (refine jG ?_; first | with_reducible (first | refine jH ?_ | refine jI ?_ | refine jJ ?_ | refine jK ?_ | refine jL ?_) | refine jM (by omega) ?_ | refine jN (by omega) ?_ | with_reducible refine jM rfl ?_ | refine jM (by assumption) ?_ | refine jN (by assumption) ?_ | refine jM (by decide) ?_ | refine jN (by decide) ?_) | refine jF (ptr_ok tblOk rfl rfl) ?_ | refine jO (fun _ => by kernel_rfl) ?_ | refine jF (by decide) ?_)
    refine St.app (sz := 1) (m := 1) tblOk rfl rfl rfl rfl hS hv (news := [UInt8.ofNat (m % 128 + 128)].map byteV) rfl (by
      have := hS.arr (b := r) (T' := []) (by simp)
      have e : ([.int .u8 (((m % 128 : Nat) : Int) + 128)] : List Value) = [UInt8.ofNat (m % 128 + 128)].map byteV := by simp only [List.map_cons, List.map_nil, byteV, hbm]
      rw [← e]; exact this) rfl (by show (_ + _) * 1 ≤ _; omega) (by omega) ?_
    intro a' c' L' w3 hv' hS
    have hS := hS.sub (H' := L') (List.sublist_cons_self _ _)
    rw [← List.map_append] at hv'
    have hl : pre.length + 1 = (pre ++ [UInt8.ofNat (m % 128 + 128)]).length := by simp
    rw [hl] at hv' ⊢
    repeat (first | refine SemW.run tblOk ?_ | refine jA (by omega) ?_ | refine jB (by omega) ?_ | refine jC (by omega) ?_ | refine jD (by omega) ?_ | refine jE rfl ?_ | refine jF (by omega) ?_ | (refine jG ?_; first | with_reducible (first | refine jH ?_ | refine jI ?_ | refine jJ ?_ | refine jK ?_ | refine jL ?_) | refine jM (by omega) ?_ | refine jN (by omega) ?_ | with_reducible refine jM rfl ?_ | refine jM (by assumption) ?_ | refine jN (by assumption) ?_ | refine jM (by decide) ?_ | refine jN (by decide) ?_) | refine jF (ptr_ok tblOk rfl rfl) ?_ | refine jO (fun _ => by kernel_rfl) ?_ | refine jF (by decide) ?_)
    rw [e2]
    repeat (first | refine SemW.run tblOk ?_ | refine jA (by omega) ?_ | refine jB (by omega) ?_ | refine jC (by omega) ?_ | refine jD (by omega) ?_ | refine jE rfl ?_ | refine jF (by omega) ?_ | (refine jG ?_; first | with_reducible (first | refine jH ?_ | refine jI ?_ | refine jJ ?_ | refine jK ?_ | refine jL ?_) | refine jM (by omega) ?_ | refine jN (by omega) ?_ | with_reducible refine jM rfl ?_ | refine jM (by assumption) ?_ | refine jN (by assumption) ?_ | refine jM (by decide) ?_ | refine jN (by decide) ?_) | refine jF (ptr_ok tblOk rfl rfl) ?_ | refine jO (fun _ => by kernel_rfl) ?_ | refine jF (by decide) ?_)
    refine ⟨(m / 128, pre ++ [UInt8.ofNat (m % 128 + 128)], a', c'), ⟨rfl, rfl, trivial⟩, ⟨by simp only; omega, by simp only [List.append_assoc]; exact hpre, L', hv', hS⟩, by simp only; omega⟩
theorem IntE_spec {w : World} (z : Int) (hz : i64ok z) : Cl Tryz.prog f_tarmacref01_Int [.int .i64 z] w fun v w' => v = Str (intB z) ∧ St w [] [] w' := by
  have hS := St.start w
  have hzl : zig z < 18446744073709551616 := by
    unfold i64ok at hz; unfold zig; split <;> omega
  refine en_tarmacref01_Int rfl ?_
  repeat (first | refine SemW.run tblOk ?_ | refine jA (by omega) ?_ | refine jB (by omega) ?_ | refine jC (by omega) ?_ | refine jD (by omega) ?_ | refine jE rfl ?_ | refine jF (by omega) ?_ | (refine jG ?_; first | with_reducible (first | refine jH ?_ | refine jI ?_ | refine jJ ?_ | refine jK ?_ | refine jL ?_) | refine jM (by omega) ?_ | refine jN (by omega) ?_ | with_reducible refine jM rfl ?_ | refine jM (by assumption) ?_ | refine jN (by assumption) ?_ | refine jM (by decide) ?_ | refine jN (by decide) ?_) | refine jF (ptr_ok tblOk rfl rfl) ?_ | refine jO (fun _ => by kernel_rfl) ?_ | refine jF (by decide) ?_)
  refine Cl.mono (Fold_spec z hz) ?_
  rintro _ w1 ⟨rfl, hS'⟩
  have hS := hS.call0 hS'
  repeat (first | refine SemW.run tblOk ?_ | refine jA (by omega) ?_ | refine jB (by omega) ?_ | refine jC (by omega) ?_ | refine jD (by omega) ?_ | refine jE rfl ?_ | refine jF (by omega) ?_ | (refine jG ?_; first | with_reducible (first | refine jH ?_ | refine jI ?_ | refine jJ ?_ | refine jK ?_ | refine jL ?_) | refine jM (by omega) ?_ | refine jN (by omega) ?_ | with_reducible refine jM rfl ?_ | refine jM (by assumption) ?_ | refine jN (by assumption) ?_ | refine jM (by decide) ?_ | refine jN (by decide) ?_) | refine jF (ptr_ok tblOk rfl rfl) ?_ | refine jO (fun _ => by kernel_rfl) ?_ | refine jF (by decide) ?_)
  refine Cl.mono (NumE_spec (zig z) hzl) ?_
  rintro _ w2 ⟨rfl, hS'⟩
  have hS := hS.call0 hS'
  repeat (first | refine SemW.run tblOk ?_ | refine jA (by omega) ?_ | refine jB (by omega) ?_ | refine jC (by omega) ?_ | refine jD (by omega) ?_ | refine jE rfl ?_ | refine jF (by omega) ?_ | (refine jG ?_; first | with_reducible (first | refine jH ?_ | refine jI ?_ | refine jJ ?_ | refine jK ?_ | refine jL ?_) | refine jM (by omega) ?_ | refine jN (by omega) ?_ | with_reducible refine jM rfl ?_ | refine jM (by assumption) ?_ | refine jN (by assumption) ?_ | refine jM (by decide) ?_ | refine jN (by decide) ?_) | refine jF (ptr_ok tblOk rfl rfl) ?_ | refine jO (fun _ => by kernel_rfl) ?_ | refine jF (by decide) ?_)
  exact ⟨rfl, hS⟩
end Go.Proofs.YthpmmfapolcaiaaGreatDoor

/- Plain: numbers read one by one into a row. -/
namespace Go.Proofs.YthpmmfapolcaiaaGreatDoor
open Go Go.Eng Go.Proofs
structure LI where
  k : Nat
  l : List Int
  s : RB
theorem wInts_step {n : Nat} {l : List Int} {s : RB} {X : List Int × RB} (hl : l.length < n) (hx : (l ++ (wInts (n - l.length) s).1, (wInts (n - l.length) s).2) = X) :
    ((l ++ [(rbInt s).1]) ++ (wInts (n - (l ++ [(rbInt s).1]).length) (rbInt s).2).1, (wInts (n - (l ++ [(rbInt s).1]).length) (rbInt s).2).2) = X := by
  rw [show n - l.length = (n - (l ++ [(rbInt s).1]).length) + 1 by simp; omega] at hx
  rw [← hx]
  simp [wInts]
theorem set_row (l : List Int) (x : Int) (n : Nat) (h : l.length < n) : (l.map intV ++ List.replicate (n - l.length) (intV 0)).set l.length (intV x) = (l ++ [x]).map intV ++ List.replicate (n - (l ++ [x]).length) (intV 0) := by
  rw [List.set_append_right _ _ (by simp)]
  rw [show n - l.length = (n - (l ++ [x]).length) + 1 by simp; omega, List.replicate_succ]
  simp
theorem rbInt_t (s : RB) : (rbInt s).2.t.length ≤ s.t.length := intO_len s.t
theorem rbNum_t (s : RB) : (rbNum s).2.t.length ≤ s.t.length := numO_len s.t
theorem lst6' {l : List Int} (h : l.length = 6) : ∃ a b c d e f, l = [a, b, c, d, e, f] := ⟨_, _, _, _, _, _, lst6 0 h⟩
theorem bits4 (n : Nat) : bitsN 4 n = [decide (n % 2 = 1), decide (n / 2 % 2 = 1), decide (n / 4 % 2 = 1), decide (n / 8 % 2 = 1)] := by
  simp only [bitsN, Nat.div_div_eq_div_mul]
theorem dmod2 (a : Nat) : decide (((a : Nat) : Int).tmod 2 = 1) = decide (a % 2 = 1) := by
  have : ((a : Int)).tmod 2 = ((a % 2 : Nat) : Int) := tmodN a 2
  rw [this, decide_eq_decide]
  omega
theorem bits4' (n : Nat) : bitsN 4 n = [decide (((n : Nat) : Int).tmod 2 = 1), decide (((n / 2 : Nat) : Int).tmod 2 = 1), decide (((n / 4 : Nat) : Int).tmod 2 = 1), decide (((n / 8 : Nat) : Int).tmod 2 = 1)] := by
  rw [dmod2, dmod2, dmod2, dmod2]; exact bits4 n
def bitW (b : Bool) : Nat := if b then 1 else 0
theorem bitW_le (b : Bool) : bitW b ≤ 1 := by cases b <;> decide
end Go.Proofs.YthpmmfapolcaiaaGreatDoor

/- Plain: records' values, how package rows reads them. -/
namespace Go.Proofs.YthpmmfapolcaiaaGreatDoor
open Go Go.Eng Go.Proofs
theorem rMarks_codec (k : Nat) (hk : k ≤ 8) : Codec (rMarks k) (fun l => numB (marksN l)) (fun l => l.length = k) := by
  have hp : 2 ^ k ≤ 2 ^ 8 := Nat.pow_le_pow_right (by omega) hk
  refine ⟨fun s h => ?_, fun a r ha => ?_⟩
  · unfold rMarks at h ⊢
    simp only [Bool.or_eq_false_iff, decide_eq_false_iff_not] at h
    obtain ⟨h1, h2⟩ := h
    have h1' := h1
    unfold rbNum at h1'
    simp only [Bool.or_eq_false_iff, decide_eq_false_iff_not, Decidable.not_not] at h1'
    refine ⟨h1'.1, ?_, bitsN_len _ _⟩
    simp only
    rw [marks_bits k _ (by omega)]
    exact numO_ok h1'.2
  · have hl := marksN_lt a
    rw [ha] at hl
    unfold rMarks
    rw [rbNum_app _ _ (by omega)]
    simp only [← ha]
    rw [bits_marksN, decide_eq_false (by rw [ha]; omega)]
    rfl
def rRow (s : RB) : RowM × RB := tk (wInts 3 s) fun l s => tk (rMarks 1 s) fun m s => tk (wText s) fun x s => (⟨l.getD 0 0, l.getD 1 0, l.getD 2 0, m.getD 0 false, x⟩, s)
def rRows : Nat → RB × List RowM → RB × List RowM
  | 0, x => x
  | n + 1, (s, l) => if s.bad = true then (s, l) else rRows n ((rRow s).2, l ++ [(rRow s).1])
def rRowsT (s : RB) : RB × List RowM := rRows (rbNum s).1 ((rbNum s).2, [])
def rPax (s : RB) (id : Int) : PaxM × RB := tk (wInts 6 s) fun l s => tk (rMarks 4 s) fun m s => tk (wText s) fun x s =>
  (⟨id, l.getD 0 0, l.getD 1 0, m.getD 0 false, m.getD 1 false, m.getD 2 false, m.getD 3 false, l.getD 2 0, l.getD 3 0, l.getD 4 0, l.getD 5 0, (parseO x).1, (parseO x).2.1⟩,
   ⟨s.t, s.bad || (!(parseO x).2.2 && decide (x ≠ []))⟩)
def rFl (s : RB) (id : Int) : FlightM × RB := tk (wInts 3 s) fun l s => tk (wInts 4 s) fun x s => (⟨id, l.getD 0 0, l.getD 1 0, l.getD 2 0, x.getD 0 0, x.getD 1 0, x.getD 2 0, x.getD 3 0⟩, s)
def RowFit (r : RowM) : Prop := r.ok ∧ r.seats.length < 18446744073709551616
theorem rRow_codec : Codec rRow rowB RowFit where
  good s h := by
    unfold rRow tk at h ⊢
    simp only at h ⊢
    obtain ⟨h3, e3, o3⟩ := wText_codec.good _ h
    obtain ⟨h2, e2, o2⟩ := (rMarks_codec 1 (by omega)).good _ h3
    obtain ⟨h1, e1, o1⟩ := (wInts_codec 3).good _ h2
    refine ⟨h1, ?_, ⟨⟨getD_ok o1.2 0, getD_ok o1.2 1, getD_ok o1.2 2⟩, o3⟩⟩
    unfold rowB textsB
    simp only [List.map_cons, List.map_nil, List.flatten_cons, List.flatten_nil, List.append_nil]
    rw [← lst3 0 o1.1, ← lst1 false o2]
    conv => lhs; rw [e1, e2, e3]
    simp only [List.append_assoc]
  app a r h := by
    have e : rowB a ++ r = intsB [a.num, a.cab, a.zone] ++ (numB (marksN [a.exit]) ++ (textB a.seats ++ r)) := by simp [rowB, textsB]
    rw [e]
    unfold rRow tk
    rw [(wInts_codec 3).app _ _ (all3 h.1.num h.1.cab h.1.zone)]
    simp only
    rw [(rMarks_codec 1 (by omega)).app _ _ rfl]
    simp only
    rw [wText_codec.app _ _ h.2]
    rfl
theorem rRows_good : ∀ (n : Nat) (s : RB) (l : List RowM), (rRows n (s, l)).1.bad = false → s.bad = false ∧ ∃ m, (rRows n (s, l)).2 = l ++ m ∧ m.length = n ∧ s.t = rowsBt m ++ (rRows n (s, l)).1.t ∧ ∀ r ∈ m, RowFit r
  | 0, s, l, h => ⟨h, [], by simp [rRows], rfl, by simp [rRows, rowsBt], by nofun⟩
  | n + 1, s, l, h => by
    unfold rRows at h ⊢
    by_cases hb : s.bad = true
    · rw [if_pos hb] at h
      rw [hb] at h; cases h
    · rw [if_neg hb] at h ⊢
      obtain ⟨h1, m, e1, e2, e3, h2⟩ := rRows_good n _ _ h
      obtain ⟨h3, e4, h4⟩ := rRow_codec.good s h1
      refine ⟨h3, (rRow s).1 :: m, by rw [e1]; simp, by rw [List.length_cons, e2], ?_, fun r hr => ?_⟩
      · rw [e4, e3]; simp [rowsBt]
      · rcases List.mem_cons.1 hr with rfl | hr
        · exact h4
        · exact h2 r hr
theorem rRows_app : ∀ (m : List RowM) (r : Bytes) (l : List RowM), (∀ x ∈ m, RowFit x) → rRows m.length (⟨rowsBt m ++ r, false⟩, l) = (⟨r, false⟩, l ++ m)
  | [], r, l, _ => by simp [rRows, rowsBt]
  | f :: m, r, l, h => by
    rw [List.length_cons]
    unfold rRows
    rw [if_neg nofun]
    have e : rowsBt (f :: m) ++ r = rowB f ++ (rowsBt m ++ r) := by simp [rowsBt]
    rw [e, rRow_codec.app f _ (h f List.mem_cons_self)]
    simp only
    rw [rRows_app m r _ fun g hg => h g (List.mem_cons_of_mem _ hg)]
    simp
theorem rMarks_t (k : Nat) (s : RB) : (rMarks k s).2.t.length ≤ s.t.length := rbNum_t s
theorem rRow_t (s : RB) : (rRow s).2.t.length ≤ s.t.length := by
  unfold rRow tk
  exact Nat.le_trans (wText_tlen _) (Nat.le_trans (rMarks_t 1 _) (wInts_tlen 3 s))
theorem rRow_dec {s : RB} (h : s.bad = false) : (rRow s).2.t.length + 1 ≤ s.t.length + bitW (rRow s).2.bad := by
  have h2 := rbInt_t (rbInt s).2
  have h3 := rbInt_t (rbInt (rbInt s).2).2
  have h4 := rMarks_t 1 (rbInt (rbInt (rbInt s).2).2).2
  have h5 := wText_tlen (rMarks 1 (rbInt (rbInt (rbInt s).2).2).2).2
  have e0 : (rRow s).2 = (wText (rMarks 1 (rbInt (rbInt (rbInt s).2).2).2).2).2 := rfl
  have e1 : (rbInt s).2.t = (intO s.t).2.2 := rfl
  have hle : (rRow s).2.t.length ≤ (intO s.t).2.2.length := by rw [e0, ← e1]; omega
  by_cases hb : (intO s.t).2.1 = 0
  · have h6 := intO_len' hb
    omega
  · have h7 := intO_len s.t
    have hbad : (rRow s).2.bad = true := by
      rw [e0]
      unfold wText rMarks rbNum rbInt
      simp [hb]
    rw [hbad]
    show _ + 1 ≤ _ + 1
    omega
theorem rRows_go (n : Nat) (s : RB) (l : List RowM) (h : s.bad = false) : rRows (n + 1) (s, l) = rRows n ((rRow s).2, l ++ [(rRow s).1]) := by
  rw [rRows, if_neg (by rw [h]; decide)]
theorem rRows_halt (n : Nat) (s : RB) (l : List RowM) (h : s.bad = true) : rRows n (s, l) = (s, l) := by
  cases n with
  | zero => rfl
  | succ n => rw [rRows, if_pos h]
/-- Rows that are written and read alike. -/
structure RowsFine (m : List RowM) : Prop where
  rows : ∀ r ∈ m, RowFit r
  len : m.length < 18446744073709551616
theorem rRowsT_codec : Codec (fun s => ((rRowsT s).2, (rRowsT s).1)) (fun m => numB m.length ++ rowsBt m) RowsFine where
  good s h := by
    simp only at h ⊢
    unfold rRowsT at h ⊢
    obtain ⟨h1, m, e1, e2, e3, h2⟩ := rRows_good _ _ _ h
    have h1' := h1
    unfold rbNum at h1'
    simp only [Bool.or_eq_false_iff, decide_eq_false_iff_not, Decidable.not_not] at h1'
    have hn := numO_lt s.t
    rw [List.nil_append] at e1
    have e4 : (rbNum s).1 = (numO s.t).1 := rfl
    rw [e1]
    refine ⟨h1'.1, ?_, ⟨h2, by rw [e2]; exact hn⟩⟩
    rw [e2, List.append_assoc, ← e3]
    exact numO_ok h1'.2
  app a r h := by
    unfold rRowsT
    rw [List.append_assoc, rbNum_app _ _ h.len]
    simp only
    rw [rRows_app _ _ _ h.rows]
    rfl
theorem rFl_codec (id : Int) (hid : i64ok id) : Codec (fun s => rFl s id) flightB (fun f => f.ok ∧ f.id = id) where
  good s h := by
    unfold rFl tk at h ⊢
    simp only at h ⊢
    obtain ⟨h2, e2, o2⟩ := (wInts_codec 4).good _ h
    obtain ⟨h1, e1, o1⟩ := (wInts_codec 3).good _ h2
    refine ⟨h1, ?_, ⟨⟨hid, getD_ok o1.2 0, getD_ok o1.2 1, getD_ok o1.2 2, getD_ok o2.2 0, getD_ok o2.2 1, getD_ok o2.2 2, getD_ok o2.2 3⟩, trivial⟩⟩
    unfold flightB
    simp only
    rw [← lst3 0 o1.1, ← lst4 0 o2.1]
    conv => lhs; rw [e1, e2]
    simp only [List.append_assoc]
  app a r h := by
    obtain ⟨h, rfl⟩ := h
    unfold rFl tk flightB
    rw [List.append_assoc, (wInts_codec 3).app _ _ (all3 h.equip h.phase h.seq)]
    simp only
    rw [(wInts_codec 4).app _ _ (all4 h.l0 h.l1 h.l2 h.l3)]
    rfl
theorem rPax_codec (id : Int) (hid : i64ok id) : Codec (fun s => rPax s id) paxB (fun p => (p.ok ∧ seatGood p.num p.c = true) ∧ p.id = id) where
  good s h := by
    unfold rPax tk at h ⊢
    simp only at h ⊢
    simp only [Bool.or_eq_false_iff] at h
    obtain ⟨h, hp⟩ := h
    obtain ⟨h3, e3, o3⟩ := wText_codec.good _ h
    obtain ⟨h2, e2, o2⟩ := (rMarks_codec 4 (by omega)).good _ h3
    obtain ⟨h1, e1, o1⟩ := (wInts_codec 6).good _ h2
    generalize (wText (rMarks 4 (wInts 6 s).2).2).1 = x at hp e3 o3
    have hok := parseO_ok x
    have hx : seatB (parseO x).1 (parseO x).2.1 = x ∧ seatGood (parseO x).1 (parseO x).2.1 = true := by
      by_cases hx0 : x = []
      · subst hx0; exact ⟨rfl, by decide⟩
      · rw [decide_eq_true hx0, Bool.and_true, Bool.not_eq_false'] at hp
        unfold parseO at hp ⊢
        cases hpb : parseB x with
        | none => rw [hpb] at hp; cases hp
        | some z =>
          obtain ⟨n, c⟩ := z
          have hs : seatS x = some (n, c) := by unfold seatS; rw [if_neg hx0, hpb]
          obtain ⟨s1, s2, -, -⟩ := seatS_some hs
          exact ⟨s1, s2⟩
    refine ⟨h1, ?_, ⟨⟨⟨hid, getD_ok o1.2 0, getD_ok o1.2 1, getD_ok o1.2 2, getD_ok o1.2 3, getD_ok o1.2 4, getD_ok o1.2 5, hok.1, hok.2⟩, hx.2⟩, trivial⟩⟩
    unfold paxB
    simp only
    rw [← lst6 0 o1.1, ← lst4 false o2, hx.1]
    conv => lhs; rw [e1, e2, e3]
    simp only [List.append_assoc]
  app a r h := by
    obtain ⟨⟨hp, hs⟩, rfl⟩ := h
    have hl := seatB_len a.num a.c
    obtain ⟨e1, e2, e3⟩ := parseO_seat hs
    unfold rPax tk paxB
    rw [List.append_assoc, List.append_assoc, (wInts_codec 6).app _ _ (all6 hp.flight hp.cab hp.cls hp.status hp.tick hp.pass)]
    simp only
    rw [(rMarks_codec 4 (by omega)).app _ _ rfl]
    simp only
    rw [wText_codec.app _ _ (by omega)]
    simp only
    rw [e1, e2, e3]
    rfl
end Go.Proofs.YthpmmfapolcaiaaGreatDoor

/- strings.Builder, embedded in order's builder: copyCheck, WriteString, WriteByte, String. -/
namespace Go.Proofs.YthpmmfapolcaiaaGreatDoor
open Go Go.Eng Go.Proofs

/-- The builder at block b holds the text s: its two cells, and its buffer. -/
inductive Bld (b : Nat) (s : List UInt8) : Heap → Prop where
  | mk (p : Value) (hp : p = .pointer none ∨ p = ptr b) (a : Option Addr) (cap : Nat) (L : Heap) (hv : Vec T_uint8 1 a s.length cap (s.map byteV) L) :
    Bld b s ((b, .cells ⟨[p, .slice a s.length cap]⟩ T_order_builder (0, 0)) :: L)
theorem Bld.new (b : Nat) : Bld b [] [(b, .cells ⟨[.pointer none, .slice none 0 0]⟩ T_order_builder (0, 0))] := Bld.mk _ (.inl rfl) none 0 [] Vec.nil

theorem run_NoEscape (v : Value) (w : World) : (callFunc f_internal_abi_NoEscape ⟨[v]⟩).run Tryz.prog w = .ok (.value v) w := by
  rw [run_callFunc_extern func_internal_abi_NoEscape (by kernel_rfl) (by kernel_rfl) (by kernel_rfl) (e := Extern.AbiNoEscape.same) (by kernel_rfl)]
  rfl
theorem und_unsafe : Tryz.prog.underlying T_unsafe_Pointer = some .unsafePointer := by kernel_rfl
theorem liesBuilder : liesAt Tryz.prog Tryz.prog.depth T_order_builder (2 / Tryz.prog.cellsOf T_order_builder) 0 T_strings_Builder 1 = true := by kernel_rfl

theorem copyCheck_spec {w : World} {b n cap : Nat} {p : Value} {a : Option Addr} {L1 : Heap} (hp : p = .pointer none ∨ p = ptr b)
    (hh : Holds ((b, .cells ⟨[p, .slice a n cap]⟩ T_order_builder (0, 0)) :: L1) w) :
    Cl Tryz.prog f_strings_Builder_copyCheck [ptr b] w fun v w' => v = .tuple ⟨[]⟩ ∧ St w (b :: keys L1) ((b, .cells ⟨[ptr b, .slice a n cap]⟩ T_order_builder (0, 0)) :: L1) w' := by
  have hS : St w (b :: keys L1) _ w := St.enter hh
  have hsh : w.shape? b = some (T_order_builder, 2) := by
    have := hS.mem (b := b)
    simp [World.shape?, this]
  obtain ⟨inf, hinf, -, hsz, -⟩ := info_of tblOk (t := T_strings_Builder) rfl
  refine en_strings_Builder_copyCheck rfl ?_
  rcases hp with rfl | rfl
  · repeat (first | refine SemW.run tblOk ?_ | refine jA (by omega) ?_ | refine jB (by omega) ?_ | refine jC (by omega) ?_ | refine jD (by omega) ?_ | refine jE rfl ?_ | refine jF (by omega) ?_ | (refine jG ?_; first | with_reducible (first | refine jH ?_ | refine jI ?_ | refine jJ ?_ | refine jK ?_ | refine jL ?_) | refine jM (by omega) ?_ | refine jN (by omega) ?_ | with_reducible refine jM rfl ?_ | refine jM (by assumption) ?_ | refine jN (by assumption) ?_ | refine jM (by decide) ?_ | refine jN (by decide) ?_) | refine jF (ptr_ok tblOk rfl rfl) ?_ | refine jO (fun _ => by kernel_rfl) ?_ | refine jF (by decide) ?_ | refine hS.ld rfl ?_ | refine hS.ldn rfl ?_ | (refine hS.st rfl rfl ?_; intro _ hS))
    refine RunG.of (Lib.run_to_unsafe w ⟨b, 0, none⟩ (und_of tblOk (t := T_Ptr_strings_Builder) rfl) und_unsafe hinf (by rw [hsz]; nofun) hsh (Nat.zero_lt_succ 1)) ?_
    refine Or.inr ⟨_, _, run_NoEscape _ _, ?_⟩
    refine RunG.of (Lib.run_from_unsafe w ⟨b, 0, none⟩ und_unsafe (und_of tblOk (t := T_Ptr_strings_Builder) rfl) hinf hsh liesBuilder) ?_
    repeat (first | refine SemW.run tblOk ?_ | refine jA (by omega) ?_ | refine jB (by omega) ?_ | refine jC (by omega) ?_ | refine jD (by omega) ?_ | refine jE rfl ?_ | refine jF (by omega) ?_ | (refine jG ?_; first | with_reducible (first | refine jH ?_ | refine jI ?_ | refine jJ ?_ | refine jK ?_ | refine jL ?_) | refine jM (by omega) ?_ | refine jN (by omega) ?_ | with_reducible refine jM rfl ?_ | refine jM (by assumption) ?_ | refine jN (by assumption) ?_ | refine jM (by decide) ?_ | refine jN (by decide) ?_) | refine jF (ptr_ok tblOk rfl rfl) ?_ | refine jO (fun _ => by kernel_rfl) ?_ | refine jF (by decide) ?_ | refine hS.ld rfl ?_ | refine hS.ldn rfl ?_ | (refine hS.st rfl rfl ?_; intro _ hS))
    exact ⟨rfl, hS⟩
  · repeat (first | refine SemW.run tblOk ?_ | refine jA (by omega) ?_ | refine jB (by omega) ?_ | refine jC (by omega) ?_ | refine jD (by omega) ?_ | refine jE rfl ?_ | refine jF (by omega) ?_ | (refine jG ?_; first | with_reducible (first | refine jH ?_ | refine jI ?_ | refine jJ ?_ | refine jK ?_ | refine jL ?_) | refine jM (by omega) ?_ | refine jN (by omega) ?_ | with_reducible refine jM rfl ?_ | refine jM (by assumption) ?_ | refine jN (by assumption) ?_ | refine jM (by decide) ?_ | refine jN (by decide) ?_) | refine jF (ptr_ok tblOk rfl rfl) ?_ | refine jO (fun _ => by kernel_rfl) ?_ | refine jF (by decide) ?_ | refine hS.ld rfl ?_ | refine hS.ldn rfl ?_ | (refine hS.st rfl rfl ?_; intro _ hS))
    refine PureRun.mk ⟨.bool false, fun w => ?_, ?_⟩
    · have := Lib.run_neq_ptr_same (P := Tryz.prog) w ⟨b, 0, none⟩ (und_of tblOk (t := T_Ptr_strings_Builder) rfl) hinf
      simp only [Sem.run_bind, run_eqGuard_of Tryz.prog .neq T_Ptr_strings_Builder _ _ (ptr b) (ptr b) w nofun nofun, Result.andThen_ok]
      exact this
    · repeat (first | refine SemW.run tblOk ?_ | refine jA (by omega) ?_ | refine jB (by omega) ?_ | refine jC (by omega) ?_ | refine jD (by omega) ?_ | refine jE rfl ?_ | refine jF (by omega) ?_ | (refine jG ?_; first | with_reducible (first | refine jH ?_ | refine jI ?_ | refine jJ ?_ | refine jK ?_ | refine jL ?_) | refine jM (by omega) ?_ | refine jN (by omega) ?_ | with_reducible refine jM rfl ?_ | refine jM (by assumption) ?_ | refine jN (by assumption) ?_ | refine jM (by decide) ?_ | refine jN (by decide) ?_) | refine jF (ptr_ok tblOk rfl rfl) ?_ | refine jO (fun _ => by kernel_rfl) ?_ | refine jF (by decide) ?_ | refine hS.ld rfl ?_ | refine hS.ldn rfl ?_ | (refine hS.st rfl rfl ?_; intro _ hS))
      exact ⟨rfl, hS⟩

theorem WriteString_spec {w : World} {b : Nat} {s t : List UInt8} {L : Heap} (hL : Bld b s L) (hh : Holds L w) (hlen : s.length + t.length ≤ 140737488355328) :
    Cl Tryz.prog f_strings_Builder_WriteString [ptr b, Str t] w fun v w' => v = .tuple ⟨[.int .i64 t.length, .nilIface]⟩ ∧ ∃ L', Bld b (s ++ t) L' ∧ St w (keys L) L' w' := by
  obtain ⟨p, hp, a, cap, L1, hv⟩ := hL
  refine en_strings_Builder_WriteString rfl ?_
  repeat (first | refine SemW.run tblOk ?_ | refine jA (by omega) ?_ | refine jB (by omega) ?_ | refine jC (by omega) ?_ | refine jD (by omega) ?_ | refine jE rfl ?_ | refine jF (by omega) ?_ | (refine jG ?_; first | with_reducible (first | refine jH ?_ | refine jI ?_ | refine jJ ?_ | refine jK ?_ | refine jL ?_) | refine jM (by omega) ?_ | refine jN (by omega) ?_ | with_reducible refine jM rfl ?_ | refine jM (by assumption) ?_ | refine jN (by assumption) ?_ | refine jM (by decide) ?_ | refine jN (by decide) ?_) | refine jF (ptr_ok tblOk rfl rfl) ?_ | refine jO (fun _ => by kernel_rfl) ?_ | refine jF (by decide) ?_)
  refine (copyCheck_spec hp hh).mono ?_
  rintro _ w1 ⟨rfl, hS⟩
  repeat (first | refine SemW.run tblOk ?_ | refine jA (by omega) ?_ | refine jB (by omega) ?_ | refine jC (by omega) ?_ | refine jD (by omega) ?_ | refine jE rfl ?_ | refine jF (by omega) ?_ | (refine jG ?_; first | with_reducible (first | refine jH ?_ | refine jI ?_ | refine jJ ?_ | refine jK ?_ | refine jL ?_) | refine jM (by omega) ?_ | refine jN (by omega) ?_ | with_reducible refine jM rfl ?_ | refine jM (by assumption) ?_ | refine jN (by assumption) ?_ | refine jM (by decide) ?_ | refine jN (by decide) ?_) | refine jF (ptr_ok tblOk rfl rfl) ?_ | refine jO (fun _ => by kernel_rfl) ?_ | refine jF (by decide) ?_ | refine hS.ld rfl ?_ | refine hS.ldn rfl ?_ | (refine hS.st rfl rfl ?_; intro _ hS))
  refine St.appStr tblOk rfl rfl rfl rfl rfl rfl hS hv (by show (_ + _) * 1 ≤ _; omega) (by omega) ?_
  intro a' cap' L' w2 hv' hS
  repeat (first | refine SemW.run tblOk ?_ | refine jA (by omega) ?_ | refine jB (by omega) ?_ | refine jC (by omega) ?_ | refine jD (by omega) ?_ | refine jE rfl ?_ | refine jF (by omega) ?_ | (refine jG ?_; first | with_reducible (first | refine jH ?_ | refine jI ?_ | refine jJ ?_ | refine jK ?_ | refine jL ?_) | refine jM (by omega) ?_ | refine jN (by omega) ?_ | with_reducible refine jM rfl ?_ | refine jM (by assumption) ?_ | refine jN (by assumption) ?_ | refine jM (by decide) ?_ | refine jN (by decide) ?_) | refine jF (ptr_ok tblOk rfl rfl) ?_ | refine jO (fun _ => by kernel_rfl) ?_ | refine jF (by decide) ?_ | refine hS.ld rfl ?_ | refine hS.ldn rfl ?_ | (refine hS.st rfl rfl ?_; intro _ hS))
  refine ⟨rfl, _, Bld.mk (ptr b) (.inr rfl) a' cap' L' ?_, ?_⟩
  · simpa using hv'
  · rw [List.length_append]; exact hS

theorem shape_of {w : World} {g : Nat} {l : List Value} {e : TypeId} {fz : Nat × Nat} (h : w.heap[g]? = some (.cells ⟨l⟩ e fz)) : w.shape? g = some (e, l.length) := by
  simp [World.shape?, h]
theorem cellsByte : Tryz.prog.cellsOf T_uint8 = 1 := by kernel_rfl

theorem mem_keys' {H : Heap} {p : Nat × Obj} (h : p ∈ H) : p.1 ∈ keys H := List.mem_map_of_mem h
/-- A frozen block is forgotten. -/
theorem frozen_drop {w0 w : World} {T : List Nat} {g : Nat} {o : Obj} {H : Heap} (hS : St w0 T ((g, o) :: H) w) (a : Addr) (ha : a.block = g) (n : Nat) : St w0 T H (w.freeze a n) := by
  unfold World.freeze
  split
  · exact hS.sub (List.sublist_cons_self _ _)
  · refine ⟨hS.os, hS.tape, hS.output, by simpa using hS.size, fun b hb hT => ?_, fun p hp => ?_, (List.nodup_cons.1 hS.nd).2, fun p hp => hS.fresh p (List.mem_cons_of_mem _ hp)⟩
    · have hne : g ≠ b := fun e => by subst e; exact hT (hS.fresh _ List.mem_cons_self hb)
      simp only [Array.getElem?_modify, ha]
      rw [if_neg hne]; exact hS.old b hb hT
    · have hne : g ≠ p.1 := fun e => (List.nodup_cons.1 hS.nd).1 (by have := mem_keys' hp; rw [← e] at this; exact this)
      simp only [Array.getElem?_modify, ha]
      rw [if_neg hne]; exact hS.own p (List.mem_cons_of_mem _ hp)

theorem String_spec {w : World} {b : Nat} {s : List UInt8} {L : Heap} (hL : Bld b s L) (hh : Holds L w) (hlen : s.length ≤ 140737488355328) :
    Cl Tryz.prog f_strings_Builder_String [ptr b] w fun v w' => v = Str s ∧ St w (keys L) [] w' := by
  have hS := St.enter hh
  obtain ⟨p, hp, a, cap, L1, hv⟩ := hL
  refine en_strings_Builder_String rfl ?_
  repeat (first | refine SemW.run tblOk ?_ | refine jA (by omega) ?_ | refine jB (by omega) ?_ | refine jC (by omega) ?_ | refine jD (by omega) ?_ | refine jE rfl ?_ | refine jF (by omega) ?_ | (refine jG ?_; first | with_reducible (first | refine jH ?_ | refine jI ?_ | refine jJ ?_ | refine jK ?_ | refine jL ?_) | refine jM (by omega) ?_ | refine jN (by omega) ?_ | with_reducible refine jM rfl ?_ | refine jM (by assumption) ?_ | refine jN (by assumption) ?_ | refine jM (by decide) ?_ | refine jN (by decide) ?_) | refine jF (ptr_ok tblOk rfl rfl) ?_ | refine jO (fun _ => by kernel_rfl) ?_ | refine jF (by decide) ?_)
  refine SemW.draw tblOk mixed (fun w' => St w (keys ((b, .cells ⟨[p, .slice a s.length cap]⟩ T_order_builder (0, 0)) :: L1)) ((b, .cells ⟨[p, .slice a s.length cap]⟩ T_order_builder (0, 0)) :: L1) w')
    [10, 11] [0, 1, 2, 3, 5, 6, 7, 8, 9, 4, 10, 11] (by kernel_rfl) hS.drew ?_
  repeat (first | refine SemW.run tblOk ?_ | refine jA (by omega) ?_ | refine jB (by omega) ?_ | refine jC (by omega) ?_ | refine jD (by omega) ?_ | refine jE rfl ?_ | refine jF (by omega) ?_ | (refine jG ?_; first | with_reducible (first | refine jH ?_ | refine jI ?_ | refine jJ ?_ | refine jK ?_ | refine jL ?_) | refine jM (by omega) ?_ | refine jN (by omega) ?_ | with_reducible refine jM rfl ?_ | refine jM (by assumption) ?_ | refine jN (by assumption) ?_ | refine jM (by decide) ?_ | refine jN (by decide) ?_) | refine jF (ptr_ok tblOk rfl rfl) ?_ | refine jO (fun _ => by kernel_rfl) ?_ | refine jF (by decide) ?_ | refine hS.ldC rfl ?_ | refine hS.ldnC rfl ?_)
  have hS := hS.drew
  generalize w.drew = w1 at hS ⊢
  -- the pointer to the bytes
  by_cases hs : s = []
  · subst hs
    have key : ∃ q w2, (Builtin.unsafeSliceData_ ⟨[T_Sl_uint8]⟩ T_Ptr_uint8 ⟨[.slice a 0 cap]⟩).run Tryz.prog w1 = .ok (.pointer q) w2 ∧ St w (keys ((b, .cells ⟨[p, .slice a 0 cap]⟩ T_order_builder (0, 0)) :: L1)) ((b, .cells ⟨[p, .slice a 0 cap]⟩ T_order_builder (0, 0)) :: L1) w2 := by
      cases hv with
      | nil => exact ⟨none, w1, rfl, hS⟩
      | row g n cap xs l hx hl hn =>
        by_cases hc : cap = 0
        · subst hc
          exact ⟨_, _, Lib.run_unsafeSliceData_zero w1 _ _ _ (und_of tblOk (t := T_Ptr_uint8) rfl) _ _ _ (shape_of (hS.mem (b := g))), (hS.alloc _).sub (List.sublist_cons_self _ _)⟩
        · exact ⟨_, w1, Lib.run_unsafeSliceData_row (P := Tryz.prog) w1 _ _ _ _ _ hc, hS⟩
    obtain ⟨q, w2, h1, hS⟩ := key
    refine RunG.of h1 ?_
    refine Chk.mk hS ?_
    refine RunG.of (Lib.run_unsafeString_none (P := Tryz.prog) w2 _ _ _ q) ?_
    repeat (first | refine SemW.run tblOk ?_ | refine jA (by omega) ?_ | refine jB (by omega) ?_ | refine jC (by omega) ?_ | refine jD (by omega) ?_ | refine jE rfl ?_ | refine jF (by omega) ?_ | (refine jG ?_; first | with_reducible (first | refine jH ?_ | refine jI ?_ | refine jJ ?_ | refine jK ?_ | refine jL ?_) | refine jM (by omega) ?_ | refine jN (by omega) ?_ | with_reducible refine jM rfl ?_ | refine jM (by assumption) ?_ | refine jN (by assumption) ?_ | refine jM (by decide) ?_ | refine jN (by decide) ?_) | refine jF (ptr_ok tblOk rfl rfl) ?_ | refine jO (fun _ => by kernel_rfl) ?_ | refine jF (by decide) ?_)
    exact ⟨rfl, hS.nil⟩
  · rcases hv.inv with ⟨-, h0, -⟩ | ⟨g, l, rfl, hx, hl, hn, rfl⟩
    · exact absurd (List.length_eq_zero_iff.1 h0) hs
    · have hs0 : 0 < s.length := List.length_pos_iff.2 hs
      have hcap : cap ≠ 0 := by omega
      refine RunG.of (Lib.run_unsafeSliceData_row (P := Tryz.prog) w1 _ _ ⟨g, 0, none⟩ s.length cap hcap) ?_
      refine Chk.mk hS ?_
      refine RunG.of (Lib.run_unsafeString_row (P := Tryz.prog) w1 _ _ _ T_uint8 (und_of tblOk (t := T_Ptr_uint8) rfl) cellsByte g _ (shape_of (hS.mem (b := g))) s hs (by simp) (by omega) ?_) ?_
      · intro j x hx
        rw [Addr.add_eq, Nat.zero_add]
        refine hS.cell ?_
        have hlt : j < s.length := (List.getElem?_eq_some_iff.1 hx).1
        rw [List.getElem?_append_left (by simpa using hlt)]
        simp [hx, byteV]
      · repeat (first | refine SemW.run tblOk ?_ | refine jA (by omega) ?_ | refine jB (by omega) ?_ | refine jC (by omega) ?_ | refine jD (by omega) ?_ | refine jE rfl ?_ | refine jF (by omega) ?_ | (refine jG ?_; first | with_reducible (first | refine jH ?_ | refine jI ?_ | refine jJ ?_ | refine jK ?_ | refine jL ?_) | refine jM (by omega) ?_ | refine jN (by omega) ?_ | with_reducible refine jM rfl ?_ | refine jM (by assumption) ?_ | refine jN (by assumption) ?_ | refine jM (by decide) ?_ | refine jN (by decide) ?_) | refine jF (ptr_ok tblOk rfl rfl) ?_ | refine jO (fun _ => by kernel_rfl) ?_ | refine jF (by decide) ?_)
        refine ⟨rfl, ?_⟩
        exact (frozen_drop (hS.perm (List.Perm.swap _ _ _)) ⟨g, 0, none⟩ rfl s.length).nil

theorem WriteByte_spec {w : World} {b : Nat} {s : List UInt8} {L : Heap} (hL : Bld b s L) (hh : Holds L w) (c : UInt8) (hlen : s.length + 1 ≤ 140737488355328) :
    Cl Tryz.prog f_strings_Builder_WriteByte [ptr b, byteV c] w fun _ w' => ∃ L', Bld b (s ++ [c]) L' ∧ St w (keys L) L' w' := by
  obtain ⟨p, hp, a, cap, L1, hv⟩ := hL
  unfold byteV
  refine en_strings_Builder_WriteByte rfl ?_
  repeat (first | refine SemW.run tblOk ?_ | refine jA (by omega) ?_ | refine jB (by omega) ?_ | refine jC (by omega) ?_ | refine jD (by omega) ?_ | refine jE rfl ?_ | refine jF (by omega) ?_ | (refine jG ?_; first | with_reducible (first | refine jH ?_ | refine jI ?_ | refine jJ ?_ | refine jK ?_ | refine jL ?_) | refine jM (by omega) ?_ | refine jN (by omega) ?_ | with_reducible refine jM rfl ?_ | refine jM (by assumption) ?_ | refine jN (by assumption) ?_ | refine jM (by decide) ?_ | refine jN (by decide) ?_) | refine jF (ptr_ok tblOk rfl rfl) ?_ | refine jO (fun _ => by kernel_rfl) ?_ | refine jF (by decide) ?_)
  refine (copyCheck_spec hp hh).mono ?_
  rintro _ w1 ⟨rfl, hS⟩
  repeat (first | refine SemW.run tblOk ?_ | refine jA (by omega) ?_ | refine jB (by omega) ?_ | refine jC (by omega) ?_ | refine jD (by omega) ?_ | refine jE rfl ?_ | refine jF (by omega) ?_ | (refine jG ?_; first | with_reducible (first | refine jH ?_ | refine jI ?_ | refine jJ ?_ | refine jK ?_ | refine jL ?_) | refine jM (by omega) ?_ | refine jN (by omega) ?_ | with_reducible refine jM rfl ?_ | refine jM (by assumption) ?_ | refine jN (by assumption) ?_ | refine jM (by decide) ?_ | refine jN (by decide) ?_) | refine jF (ptr_ok tblOk rfl rfl) ?_ | refine jO (fun _ => by kernel_rfl) ?_ | refine jF (by decide) ?_ | refine hS.ld rfl ?_ | refine hS.ldn rfl ?_ | (refine hS.st rfl rfl ?_; intro _ hS))
  refine hS.al ?_
  intro r w2 _ hS
  repeat (first | refine SemW.run tblOk ?_ | refine jA (by omega) ?_ | refine jB (by omega) ?_ | refine jC (by omega) ?_ | refine jD (by omega) ?_ | refine jE rfl ?_ | refine jF (by omega) ?_ | (refine jG ?_; first | with_reducible (first | refine jH ?_ | refine jI ?_ | refine jJ ?_ | refine jK ?_ | refine jL ?_) | refine jM (by omega) ?_ | refine jN (by omega) ?_ | with_reducible refine jM rfl ?_ | refine jM (by assumption) ?_ | refine jN (by assumption) ?_ | refine jM (by decide) ?_ | refine jN (by decide) ?_) | refine jF (ptr_ok tblOk rfl rfl) ?_ | refine jO (fun _ => by kernel_rfl) ?_ | refine jF (by decide) ?_ | refine hS.ld rfl ?_ | refine hS.ldn rfl ?_ | (refine hS.st rfl rfl ?_; intro _ hS))
  refine St.app (sz := 1) (m := 1) tblOk rfl rfl rfl rfl hS hv (news := [c].map byteV) rfl (by have := hS.arr (b := r) (T' := []) (by simp); exact this) rfl (by show (_ + _) * 1 ≤ _; omega) (by omega) ?_
  intro a' cap' L' w3 hv' hS
  rw [← List.map_append] at hv'
  have hl : s.length + 1 = (s ++ [c]).length := by simp
  rw [hl] at hv' ⊢
  repeat (first | refine SemW.run tblOk ?_ | refine jA (by omega) ?_ | refine jB (by omega) ?_ | refine jC (by omega) ?_ | refine jD (by omega) ?_ | refine jE rfl ?_ | refine jF (by omega) ?_ | (refine jG ?_; first | with_reducible (first | refine jH ?_ | refine jI ?_ | refine jJ ?_ | refine jK ?_ | refine jL ?_) | refine jM (by omega) ?_ | refine jN (by omega) ?_ | with_reducible refine jM rfl ?_ | refine jM (by assumption) ?_ | refine jN (by assumption) ?_ | refine jM (by decide) ?_ | refine jN (by decide) ?_) | refine jF (ptr_ok tblOk rfl rfl) ?_ | refine jO (fun _ => by kernel_rfl) ?_ | refine jF (by decide) ?_ | refine hS.ld rfl ?_ | refine hS.ldn rfl ?_ | (refine hS.st rfl rfl ?_; intro _ hS))
  exact ⟨_, Bld.mk (ptr b) (.inr rfl) a' cap' L' hv', hS.sub (List.sublist_cons_self _ _)⟩
end Go.Proofs.YthpmmfapolcaiaaGreatDoor

/- Package order: the builder's number and text. -/
namespace Go.Proofs.YthpmmfapolcaiaaGreatDoor
open Go Go.Eng Go.Proofs

theorem be8_get' (n j : Nat) (hj : j < 8) : (be8 n)[j]? = some (UInt8.ofNat (n / 2 ^ (56 - 8 * j))) := by
  match j, hj with
  | 0, _ => rfl
  | 1, _ => rfl
  | 2, _ => rfl
  | 3, _ => rfl
  | 4, _ => rfl
  | 5, _ => rfl
  | 6, _ => rfl
  | 7, _ => simp [be8]
theorem take_snoc' (l : Bytes) (j : Nat) (x : UInt8) (h : l[j]? = some x) : l.take (j + 1) = l.take j ++ [x] := by
  obtain ⟨hj, rfl⟩ := List.getElem?_eq_some_iff.1 h
  exact List.take_succ_eq_append_getElem hj
theorem xor_top (a : Nat) (ha : a < 18446744073709551616) : a ^^^ 9223372036854775808 = if a < 9223372036854775808 then a + 9223372036854775808 else a - 9223372036854775808 := by
  have h1 : (a ^^^ 9223372036854775808) % 2 ^ 63 = a % 2 ^ 63 := by
    rw [Nat.xor_mod_two_pow, show 9223372036854775808 % 2 ^ 63 = 0 by decide, Nat.xor_zero]
  have h2 : (a ^^^ 9223372036854775808) / 2 ^ 63 = (a / 2 ^ 63) ^^^ 1 := by
    rw [Nat.xor_div_two_pow, show 9223372036854775808 / 2 ^ 63 = 1 by decide]
  generalize a ^^^ 9223372036854775808 = z at *
  have h3 : a / 2 ^ 63 = 0 ∨ a / 2 ^ 63 = 1 := by omega
  split
  · have : a / 2 ^ 63 = 0 := by omega
    rw [this] at h2
    have : z / 2 ^ 63 = 1 := h2
    omega
  · have : a / 2 ^ 63 = 1 := by omega
    rw [this] at h2
    have : z / 2 ^ 63 = 0 := h2
    omega
theorem unum_eq (n : Int) (hn : -9223372036854775808 ≤ n ∧ n ≤ 9223372036854775807) : xorI .u64 (IntKind.u64.wrap n) 9223372036854775808 = (unum n : Int) := by
  have hw : ∃ m : Nat, IntKind.u64.wrap n = (m : Int) ∧ m < 18446744073709551616 ∧ (0 ≤ n → (m : Int) = n) ∧ (n < 0 → (m : Int) = n + 18446744073709551616) := by
    by_cases h : 0 ≤ n
    · refine ⟨n.toNat, ?_, by omega, by omega, by omega⟩
      unfold IntKind.wrap; simp only [IntKind.signed, IntKind.bits]; simp; omega
    · refine ⟨(n + 18446744073709551616).toNat, ?_, by omega, by omega, by omega⟩
      unfold IntKind.wrap; simp only [IntKind.signed, IntKind.bits]; simp; omega
  obtain ⟨m, h1, h2, h3, h4⟩ := hw
  have hx := xorU .u64 rfl m 9223372036854775808 h2 (by decide)
  rw [show ((9223372036854775808 : Nat) : Int) = 9223372036854775808 from rfl] at hx
  rw [h1, hx, xor_top m h2]
  unfold unum
  split <;> omega
set_option maxHeartbeats 1000000 in
theorem number_spec {w : World} {b : Nat} {s : Bytes} {L : Heap} (hB : Bld b s L) (hh : Holds L w) (n : Int) (hn : -9223372036854775808 ≤ n ∧ n ≤ 9223372036854775807) (hlen : s.length ≤ 70368744177664) :
    Cl Tryz.prog f_order_builder_number [ptr b, .int .i64 n] w fun _ w' => ∃ L', Bld b (s ++ ([1] ++ be8 (unum n))) L' ∧ St w (keys L) L' w' := by
  have hu := unum_eq n hn
  have hul : unum n < 18446744073709551616 := by unfold unum; omega
  refine en_order_builder_number rfl ?_
  repeat (first | refine SemW.run tblOk ?_ | refine jA (by omega) ?_ | refine jB (by omega) ?_ | refine jC (by omega) ?_ | refine jD (by omega) ?_ | refine jE rfl ?_ | refine jF (by omega) ?_ | (refine jG ?_; first | with_reducible (first | refine jH ?_ | refine jI ?_ | refine jJ ?_ | refine jK ?_ | refine jL ?_) | refine jM (by omega) ?_ | refine jN (by omega) ?_ | with_reducible refine jM rfl ?_ | refine jM (by assumption) ?_ | refine jN (by assumption) ?_ | refine jM (by decide) ?_ | refine jN (by decide) ?_) | refine jF (ptr_ok tblOk rfl rfl) ?_ | refine jO (fun _ => by kernel_rfl) ?_ | refine jF (by decide) ?_)
  rw [hu]
  repeat (first | refine SemW.run tblOk ?_ | refine jA (by omega) ?_ | refine jB (by omega) ?_ | refine jC (by omega) ?_ | refine jD (by omega) ?_ | refine jE rfl ?_ | refine jF (by omega) ?_ | (refine jG ?_; first | with_reducible (first | refine jH ?_ | refine jI ?_ | refine jJ ?_ | refine jK ?_ | refine jL ?_) | refine jM (by omega) ?_ | refine jN (by omega) ?_ | with_reducible refine jM rfl ?_ | refine jM (by assumption) ?_ | refine jN (by assumption) ?_ | refine jM (by decide) ?_ | refine jN (by decide) ?_) | refine jF (ptr_ok tblOk rfl rfl) ?_ | refine jO (fun _ => by kernel_rfl) ?_ | refine jF (by decide) ?_)
  refine Cl.mono (WriteByte_spec hB hh 1 (by omega)) ?_
  rintro _ w1 ⟨L1, hB, hS⟩
  generalize hT : keys L = T0 at hS ⊢
  repeat (first | refine SemW.run tblOk ?_ | refine jA (by omega) ?_ | refine jB (by omega) ?_ | refine jC (by omega) ?_ | refine jD (by omega) ?_ | refine jE rfl ?_ | refine jF (by omega) ?_ | (refine jG ?_; first | with_reducible (first | refine jH ?_ | refine jI ?_ | refine jJ ?_ | refine jK ?_ | refine jL ?_) | refine jM (by omega) ?_ | refine jN (by omega) ?_ | with_reducible refine jM rfl ?_ | refine jM (by assumption) ?_ | refine jN (by assumption) ?_ | refine jM (by decide) ?_ | refine jN (by decide) ?_) | refine jF (ptr_ok tblOk rfl rfl) ?_ | refine jO (fun _ => by kernel_rfl) ?_ | refine jF (by decide) ?_)
  refine SemW.loop (fun j : Nat => [(0, ptr b), (4, .int .u64 (unum n : Nat)), (5, .int .i64 (56 - 8 * (j : Int)))])
    (fun j w' => j ≤ 8 ∧ ∃ L, Bld b (s ++ [1] ++ (be8 (unum n)).take j) L ∧ St w T0 L w') (fun j => 8 - j) 0
    ⟨rfl, rfl, rfl, trivial⟩ ⟨Nat.zero_le _, L1, by simpa using hB, hS⟩ ?_
  rintro j w6 ⟨hj, L5, hB5, hS⟩
  by_cases hjl : j < 8
  · have hb := take_snoc' _ j _ (be8_get' (unum n) j hjl)
    have hsh : (56 - 8 * (j : Int)) = ((56 - 8 * j : Nat) : Int) := by omega
    have hbv : IntKind.u8.wrap (((unum n : Nat) : Int).fdiv (2 ^ min (56 - 8 * (j : Int)).toNat IntKind.u64.bits)) = (((UInt8.ofNat (unum n / 2 ^ (56 - 8 * j))).toNat : Nat) : Int) := by
      rw [show min (56 - 8 * (j : Int)).toNat IntKind.u64.bits = 56 - 8 * j by show min _ 64 = _; omega, fdivP, u8wrap]
    have hll : (s ++ [1] ++ (be8 (unum n)).take j).length ≤ s.length + 9 := by
      rw [List.length_append, List.length_append, List.length_take]; simp [be8]; omega
    repeat (first | refine SemW.run tblOk ?_ | refine jA (by omega) ?_ | refine jB (by omega) ?_ | refine jC (by omega) ?_ | refine jD (by omega) ?_ | refine jE rfl ?_ | refine jF (by omega) ?_ | (refine jG ?_; first | with_reducible (first | refine jH ?_ | refine jI ?_ | refine jJ ?_ | refine jK ?_ | refine jL ?_) | refine jM (by omega) ?_ | refine jN (by omega) ?_ | with_reducible refine jM rfl ?_ | refine jM (by assumption) ?_ | refine jN (by assumption) ?_ | refine jM (by decide) ?_ | refine jN (by decide) ?_) | refine jF (ptr_ok tblOk rfl rfl) ?_ | refine jO (fun _ => by kernel_rfl) ?_ | refine jF (by decide) ?_)
    rw [hbv]
    refine Cl.mono (WriteByte_spec hB5 (hS.part (L := L5)) (UInt8.ofNat (unum n / 2 ^ (56 - 8 * j))) (by omega)) ?_
    rintro _ w8 ⟨L6, hB6, hS'⟩
    have hS := hS.call (L := L5) hS'
    rw [List.append_assoc, ← hb] at hB6
    repeat (first | refine SemW.run tblOk ?_ | refine jA (by omega) ?_ | refine jB (by omega) ?_ | refine jC (by omega) ?_ | refine jD (by omega) ?_ | refine jE rfl ?_ | refine jF (by omega) ?_ | (refine jG ?_; first | with_reducible (first | refine jH ?_ | refine jI ?_ | refine jJ ?_ | refine jK ?_ | refine jL ?_) | refine jM (by omega) ?_ | refine jN (by omega) ?_ | with_reducible refine jM rfl ?_ | refine jM (by assumption) ?_ | refine jN (by assumption) ?_ | refine jM (by decide) ?_ | refine jN (by decide) ?_) | refine jF (ptr_ok tblOk rfl rfl) ?_ | refine jO (fun _ => by kernel_rfl) ?_ | refine jF (by decide) ?_)
    refine ⟨j + 1, ⟨rfl, rfl, ?_, trivial⟩, ⟨by omega, L6, hB6, hS⟩, by omega⟩
    show _ = (_ : Value)
    rw [show (56 - 8 * ((j + 1 : Nat) : Int)) = 56 - 8 * (j : Int) - 8 by omega]
  · have hj8 : j = 8 := by omega
    subst hj8
    repeat (first | refine SemW.run tblOk ?_ | refine jA (by omega) ?_ | refine jB (by omega) ?_ | refine jC (by omega) ?_ | refine jD (by omega) ?_ | refine jE rfl ?_ | refine jF (by omega) ?_ | (refine jG ?_; first | with_reducible (first | refine jH ?_ | refine jI ?_ | refine jJ ?_ | refine jK ?_ | refine jL ?_) | refine jM (by omega) ?_ | refine jN (by omega) ?_ | with_reducible refine jM rfl ?_ | refine jM (by assumption) ?_ | refine jN (by assumption) ?_ | refine jM (by decide) ?_ | refine jN (by decide) ?_) | refine jF (ptr_ok tblOk rfl rfl) ?_ | refine jO (fun _ => by kernel_rfl) ?_ | refine jF (by decide) ?_)
    refine ⟨L5, ?_, hS⟩
    rw [List.append_assoc] at hB5
    exact hB5
theorem Cl.val {P : Program} {f : FuncId} {args : List Value} {w w' : World} {v : Value} {R : Value → World → Prop} (h : (callFunc f ⟨args⟩).run P w = .ok (.value v) w') (hr : R v w') : Cl P f args w R := .inr ⟨v, w', h, hr⟩
theorem run_CountString (s : Bytes) (w : World) : (callFunc f_internal_bytealg_CountString ⟨[Str s, .int .u8 0]⟩).run Tryz.prog w = .ok (.value (.int .i64 (Lib.countByte s 0))) w := by
  rw [run_callFunc_extern func_internal_bytealg_CountString (by kernel_rfl) (by kernel_rfl) (by kernel_rfl) (e := Extern.BytealgCount.count) (by kernel_rfl)]
  have := Lib.run_countString (P := Tryz.prog) ⟨⟨s⟩⟩ 0 w
  rw [show (Array.mk [Str s, Value.int IntKind.u8 0]) = #[Str s, .int .u8 0] from rfl]
  rw [this]
  rfl
set_option maxHeartbeats 1000000 in
theorem ReplaceAll_spec {w : World} {s : Bytes} (h0 : Lib.countByte s 0 = 0) : Cl Tryz.prog f_strings_ReplaceAll [Str s, Str [0], Str [0, 255]] w fun v w' => v = Str s ∧ St w [] [] w' := by
  have hS := St.start w
  refine en_strings_ReplaceAll rfl ?_
  repeat (first | refine SemW.run tblOk ?_ | refine jA (by omega) ?_ | refine jB (by omega) ?_ | refine jC (by omega) ?_ | refine jD (by omega) ?_ | refine jE rfl ?_ | refine jF (by omega) ?_ | (refine jG ?_; first | with_reducible (first | refine jH ?_ | refine jI ?_ | refine jJ ?_ | refine jK ?_ | refine jL ?_) | refine jM (by omega) ?_ | refine jN (by omega) ?_ | with_reducible refine jM rfl ?_ | refine jM (by assumption) ?_ | refine jN (by assumption) ?_ | refine jM (by decide) ?_ | refine jN (by decide) ?_) | refine jF (ptr_ok tblOk rfl rfl) ?_ | refine jO (fun _ => by kernel_rfl) ?_ | refine jF (by decide) ?_)
  refine Cl.mono (P := Tryz.prog) (R := fun v w' => v = Str s ∧ St w [] [] w') ?_ ?_
  · refine en_strings_Replace rfl ?_
    repeat (first | refine SemW.run tblOk ?_ | refine jA (by omega) ?_ | refine jB (by omega) ?_ | refine jC (by omega) ?_ | refine jD (by omega) ?_ | refine jE rfl ?_ | refine jF (by omega) ?_ | (refine jG ?_; first | with_reducible (first | refine jH ?_ | refine jI ?_ | refine jJ ?_ | refine jK ?_ | refine jL ?_) | refine jM (by omega) ?_ | refine jN (by omega) ?_ | with_reducible refine jM rfl ?_ | refine jM (by assumption) ?_ | refine jN (by assumption) ?_ | refine jM (by decide) ?_ | refine jN (by decide) ?_) | refine jF (ptr_ok tblOk rfl rfl) ?_ | refine jO (fun _ => by kernel_rfl) ?_ | refine jF (by decide) ?_)
    refine Cl.mono (P := Tryz.prog) (R := fun v w' => v = .int .i64 0 ∧ St w [] [] w') ?_ ?_
    · refine en_strings_Count rfl ?_
      repeat (first | refine SemW.run tblOk ?_ | refine jA (by omega) ?_ | refine jB (by omega) ?_ | refine jC (by omega) ?_ | refine jD (by omega) ?_ | refine jE rfl ?_ | refine jF (by omega) ?_ | (refine jG ?_; first | with_reducible (first | refine jH ?_ | refine jI ?_ | refine jJ ?_ | refine jK ?_ | refine jL ?_) | refine jM (by omega) ?_ | refine jN (by omega) ?_ | with_reducible refine jM rfl ?_ | refine jM (by assumption) ?_ | refine jN (by assumption) ?_ | refine jM (by decide) ?_ | refine jN (by decide) ?_) | refine jF (ptr_ok tblOk rfl rfl) ?_ | refine jO (fun _ => by kernel_rfl) ?_ | refine jF (by decide) ?_)
      have hc := run_CountString s w
      rw [h0] at hc
      refine Cl.val hc ?_
      repeat (first | refine SemW.run tblOk ?_ | refine jA (by omega) ?_ | refine jB (by omega) ?_ | refine jC (by omega) ?_ | refine jD (by omega) ?_ | refine jE rfl ?_ | refine jF (by omega) ?_ | (refine jG ?_; first | with_reducible (first | refine jH ?_ | refine jI ?_ | refine jJ ?_ | refine jK ?_ | refine jL ?_) | refine jM (by omega) ?_ | refine jN (by omega) ?_ | with_reducible refine jM rfl ?_ | refine jM (by assumption) ?_ | refine jN (by assumption) ?_ | refine jM (by decide) ?_ | refine jN (by decide) ?_) | refine jF (ptr_ok tblOk rfl rfl) ?_ | refine jO (fun _ => by kernel_rfl) ?_ | refine jF (by decide) ?_)
      exact ⟨rfl, hS⟩
    · rintro _ w1 ⟨rfl, hS⟩
      repeat (first | refine SemW.run tblOk ?_ | refine jA (by omega) ?_ | refine jB (by omega) ?_ | refine jC (by omega) ?_ | refine jD (by omega) ?_ | refine jE rfl ?_ | refine jF (by omega) ?_ | (refine jG ?_; first | with_reducible (first | refine jH ?_ | refine jI ?_ | refine jJ ?_ | refine jK ?_ | refine jL ?_) | refine jM (by omega) ?_ | refine jN (by omega) ?_ | with_reducible refine jM rfl ?_ | refine jM (by assumption) ?_ | refine jN (by assumption) ?_ | refine jM (by decide) ?_ | refine jN (by decide) ?_) | refine jF (ptr_ok tblOk rfl rfl) ?_ | refine jO (fun _ => by kernel_rfl) ?_ | refine jF (by decide) ?_)
      exact ⟨rfl, hS⟩
  · rintro _ w1 ⟨rfl, hS⟩
    repeat (first | refine SemW.run tblOk ?_ | refine jA (by omega) ?_ | refine jB (by omega) ?_ | refine jC (by omega) ?_ | refine jD (by omega) ?_ | refine jE rfl ?_ | refine jF (by omega) ?_ | (refine jG ?_; first | with_reducible (first | refine jH ?_ | refine jI ?_ | refine jJ ?_ | refine jK ?_ | refine jL ?_) | refine jM (by omega) ?_ | refine jN (by omega) ?_ | with_reducible refine jM rfl ?_ | refine jM (by assumption) ?_ | refine jN (by assumption) ?_ | refine jM (by decide) ?_ | refine jN (by decide) ?_) | refine jF (ptr_ok tblOk rfl rfl) ?_ | refine jO (fun _ => by kernel_rfl) ?_ | refine jF (by decide) ?_)
    exact ⟨rfl, hS⟩
set_option maxHeartbeats 1000000 in
theorem text_spec {w : World} {b : Nat} {s t : Bytes} {L : Heap} (hB : Bld b s L) (hh : Holds L w) (h0 : Lib.countByte t 0 = 0) (hlen : s.length + t.length ≤ 70368744177664) :
    Cl Tryz.prog f_order_builder_text [ptr b, Str t] w fun _ w' => ∃ L', Bld b (s ++ ([2] ++ t ++ [0, 0])) L' ∧ St w (keys L) L' w' := by
  refine en_order_builder_text rfl ?_
  repeat (first | refine SemW.run tblOk ?_ | refine jA (by omega) ?_ | refine jB (by omega) ?_ | refine jC (by omega) ?_ | refine jD (by omega) ?_ | refine jE rfl ?_ | refine jF (by omega) ?_ | (refine jG ?_; first | with_reducible (first | refine jH ?_ | refine jI ?_ | refine jJ ?_ | refine jK ?_ | refine jL ?_) | refine jM (by omega) ?_ | refine jN (by omega) ?_ | with_reducible refine jM rfl ?_ | refine jM (by assumption) ?_ | refine jN (by assumption) ?_ | refine jM (by decide) ?_ | refine jN (by decide) ?_) | refine jF (ptr_ok tblOk rfl rfl) ?_ | refine jO (fun _ => by kernel_rfl) ?_ | refine jF (by decide) ?_)
  refine Cl.mono (WriteByte_spec hB hh 2 (by omega)) ?_
  rintro _ w1 ⟨L1, hB, hS⟩
  generalize hT : keys L = T0 at hS ⊢
  repeat (first | refine SemW.run tblOk ?_ | refine jA (by omega) ?_ | refine jB (by omega) ?_ | refine jC (by omega) ?_ | refine jD (by omega) ?_ | refine jE rfl ?_ | refine jF (by omega) ?_ | (refine jG ?_; first | with_reducible (first | refine jH ?_ | refine jI ?_ | refine jJ ?_ | refine jK ?_ | refine jL ?_) | refine jM (by omega) ?_ | refine jN (by omega) ?_ | with_reducible refine jM rfl ?_ | refine jM (by assumption) ?_ | refine jN (by assumption) ?_ | refine jM (by decide) ?_ | refine jN (by decide) ?_) | refine jF (ptr_ok tblOk rfl rfl) ?_ | refine jO (fun _ => by kernel_rfl) ?_ | refine jF (by decide) ?_)
  refine SemW.draw tblOk mixed (fun w' => St w T0 L1 w') [5] [0, 1, 2, 3, 4, 5] (by kernel_rfl) hS.drew ?_
  have hS := hS.drew
  repeat (first | refine SemW.run tblOk ?_ | refine jA (by omega) ?_ | refine jB (by omega) ?_ | refine jC (by omega) ?_ | refine jD (by omega) ?_ | refine jE rfl ?_ | refine jF (by omega) ?_ | (refine jG ?_; first | with_reducible (first | refine jH ?_ | refine jI ?_ | refine jJ ?_ | refine jK ?_ | refine jL ?_) | refine jM (by omega) ?_ | refine jN (by omega) ?_ | with_reducible refine jM rfl ?_ | refine jM (by assumption) ?_ | refine jN (by assumption) ?_ | refine jM (by decide) ?_ | refine jN (by decide) ?_) | refine jF (ptr_ok tblOk rfl rfl) ?_ | refine jO (fun _ => by kernel_rfl) ?_ | refine jF (by decide) ?_ | refine hS.ldC rfl ?_ | refine hS.ldnC rfl ?_)
  refine Cl.mono (ReplaceAll_spec h0) ?_
  rintro _ w2 ⟨rfl, hS'⟩
  have hS := hS.call0 hS'
  refine Chk.mk hS ?_
  repeat (first | refine SemW.run tblOk ?_ | refine jA (by omega) ?_ | refine jB (by omega) ?_ | refine jC (by omega) ?_ | refine jD (by omega) ?_ | refine jE rfl ?_ | refine jF (by omega) ?_ | (refine jG ?_; first | with_reducible (first | refine jH ?_ | refine jI ?_ | refine jJ ?_ | refine jK ?_ | refine jL ?_) | refine jM (by omega) ?_ | refine jN (by omega) ?_ | with_reducible refine jM rfl ?_ | refine jM (by assumption) ?_ | refine jN (by assumption) ?_ | refine jM (by decide) ?_ | refine jN (by decide) ?_) | refine jF (ptr_ok tblOk rfl rfl) ?_ | refine jO (fun _ => by kernel_rfl) ?_ | refine jF (by decide) ?_ | refine hS.ldC rfl ?_ | refine hS.ldnC rfl ?_)
  refine Cl.mono (WriteString_spec hB (hS.part (L := L1)) (by simp; omega)) ?_
  rintro _ w3 ⟨rfl, L2, hB, hS'⟩
  have hS := hS.call (L := L1) hS'
  repeat (first | refine SemW.run tblOk ?_ | refine jA (by omega) ?_ | refine jB (by omega) ?_ | refine jC (by omega) ?_ | refine jD (by omega) ?_ | refine jE rfl ?_ | refine jF (by omega) ?_ | (refine jG ?_; first | with_reducible (first | refine jH ?_ | refine jI ?_ | refine jJ ?_ | refine jK ?_ | refine jL ?_) | refine jM (by omega) ?_ | refine jN (by omega) ?_ | with_reducible refine jM rfl ?_ | refine jM (by assumption) ?_ | refine jN (by assumption) ?_ | refine jM (by decide) ?_ | refine jN (by decide) ?_) | refine jF (ptr_ok tblOk rfl rfl) ?_ | refine jO (fun _ => by kernel_rfl) ?_ | refine jF (by decide) ?_)
  refine Cl.mono (WriteString_spec hB (hS.part (L := L2)) (by simp; omega)) ?_
  rintro _ w4 ⟨rfl, L3, hB, hS'⟩
  have hS := hS.call (L := L2) hS'
  repeat (first | refine SemW.run tblOk ?_ | refine jA (by omega) ?_ | refine jB (by omega) ?_ | refine jC (by omega) ?_ | refine jD (by omega) ?_ | refine jE rfl ?_ | refine jF (by omega) ?_ | (refine jG ?_; first | with_reducible (first | refine jH ?_ | refine jI ?_ | refine jJ ?_ | refine jK ?_ | refine jL ?_) | refine jM (by omega) ?_ | refine jN (by omega) ?_ | with_reducible refine jM rfl ?_ | refine jM (by assumption) ?_ | refine jN (by assumption) ?_ | refine jM (by decide) ?_ | refine jN (by decide) ?_) | refine jF (ptr_ok tblOk rfl rfl) ?_ | refine jO (fun _ => by kernel_rfl) ?_ | refine jF (by decide) ?_)
  refine ⟨L3, ?_, hS⟩
  simpa using hB
end Go.Proofs.YthpmmfapolcaiaaGreatDoor

/- Loads from slices that are read. -/
namespace Go.Eng
open Go
/-- Several cells of a slice that is read. -/
theorem Arr.ldn {w0 w : World} {T : List Nat} {H : Heap} (hS : St w0 T H w) {a : Option Addr} {xs : List Value} (ha : Arr w0 T a xs) {b off n : Nat} (hb : a = some ⟨b, off, none⟩) {k : Nat} {l' : List Value} (hl : (xs.drop k).take n = l') (hn : l'.length = n) {K : List Value → Prop} (hk : K l') :
    LdN (fun w' => w = w') n b (off + k) K := by
  subst hl
  refine ⟨⟨_, hn, fun _ e j v hv => ?_, hk⟩⟩
  subst e
  have hv2 : xs[k + j]? = some v := by
    rw [List.getElem?_take] at hv
    split at hv
    · rw [List.getElem?_drop] at hv; exact hv
    · cases hv
  obtain ⟨b', off', h1, h2, h3⟩ := ha (k + j) v hv2
  rw [hb] at h1
  simp only [Option.some.injEq, Addr.mk.injEq, and_true] at h1
  obtain ⟨rfl, rfl⟩ := h1
  have := hS.oldCell (a := ⟨b, off + (k + j), none⟩) h2 h3
  rw [Nat.add_assoc]; exact this
theorem Arr.dropS {w : World} {T : List Nat} {g off cap k sz : Nat} {xs ys : List Value} (h : Arr w T (some ⟨g, off, none⟩) (xs ++ ys)) (hx : xs.length = k * sz) (hc : ys ≠ [] → k < cap) : Arr w T (subA g off k cap sz) ys := by
  unfold subA
  split
  · next hk =>
    have : ys = [] := by
      cases ys with
      | nil => rfl
      | cons y ys => have := hc (by simp); omega
    subst this; exact Arr.nil _ _ _
  · intro j x hj
    obtain ⟨b, o, h1, h2, h3⟩ := h (xs.length + j) x (by rw [List.getElem?_append_right (by omega), show xs.length + j - xs.length = j by omega]; exact hj)
    simp at h1
    obtain ⟨rfl, rfl⟩ := h1
    exact ⟨g, off + k * sz, rfl, h2, by rw [← hx, show off + xs.length + j = off + (xs.length + j) by omega]; exact h3⟩
/-- A cell of a slice that is read. -/
theorem Arr.ldc {w0 w : World} {T : List Nat} {H : Heap} (hS : St w0 T H w) {g off i j : Nat} {xs : List Value} (ha : Arr w0 T (some ⟨g, off, none⟩) xs) {v : Value} (hx : xs[j]? = some v) (hi : i = off + j) {K : Value → Prop} (hk : K v) : LdC (fun w' => w = w') ⟨g, i, none⟩ K := by
  obtain ⟨b', off', h1, h2, h3⟩ := ha j v hx
  simp only [Option.some.injEq, Addr.mk.injEq, and_true] at h1
  obtain ⟨rfl, rfl⟩ := h1
  rw [hi]
  exact hS.ldOld h2 h3 hk
/-- The same in every world that meets St. -/
theorem Arr.ldcC {w0 : World} {T : List Nat} {H : Heap} {g off i j : Nat} {xs : List Value} (ha : Arr w0 T (some ⟨g, off, none⟩) xs) {v : Value} (hx : xs[j]? = some v) (hi : i = off + j) {K : Value → Prop} (hk : K v) : LdC (fun w' => St w0 T H w') ⟨g, i, none⟩ K := by
  obtain ⟨b', off', h1, h2, h3⟩ := ha j v hx
  simp only [Option.some.injEq, Addr.mk.injEq, and_true] at h1
  obtain ⟨rfl, rfl⟩ := h1
  rw [hi]
  exact ⟨⟨v, fun _ h' => h'.oldCell (a := ⟨g, off + j, none⟩) h2 h3, hk⟩⟩
/-- Several cells, in every world that meets St. -/
theorem Arr.ldnC {w0 : World} {T : List Nat} {H : Heap} {g off i n k : Nat} {xs l' : List Value} (ha : Arr w0 T (some ⟨g, off, none⟩) xs) (hl : (xs.drop k).take n = l') (hn : l'.length = n) (hi : i = off + k) {K : List Value → Prop} (hk : K l') :
    LdN (fun w' => St w0 T H w') n g i K := by
  subst hl
  refine ⟨⟨_, hn, fun _ h' j v hv => ?_, hk⟩⟩
  have hv2 : xs[k + j]? = some v := by
    rw [List.getElem?_take] at hv
    split at hv
    · rw [List.getElem?_drop] at hv; exact hv
    · cases hv
  obtain ⟨b', off', h1, h2, h3⟩ := ha (k + j) v hv2
  simp only [Option.some.injEq, Addr.mk.injEq, and_true] at h1
  obtain ⟨rfl, rfl⟩ := h1
  have := h'.oldCell (a := ⟨g, off + (k + j), none⟩) h2 h3
  rw [hi, Nat.add_assoc]; exact this
end Go.Eng
