/- The contracts on strconv.Atoi at every string, at this dump, by the kit's tool lay-plain; in the form of my own contracts. -/
import Derived.Shelf.Strconv.AtoiAll
import Derived.Lib.AtoiErrMem
import Derived.Ground.NamesProg
import Derived.Test.YtkncpdehgcldbaaDoorProg
import Derived.Test.YtkncpdehgcldbaaDoorTbl
import Derived.Test.YtkncpdehgcldbaaDoorBase
namespace Go.Proofs
open Go.Shelf
def Tryd.laysAtoi_ren : Go.Shelf.Ren := ⟨fun | 172 => 58 | 244 => 76 | 245 => 77 | 247 => 85 | 279 => 86 | 280 => 87 | 281 => 88 | 282 => 89 | 287 => 96 | 316 => 97 | 171 => 57 | 205 => 98 | 321 => 105 | 322 => 106 | 243 => 75 | 246 => 84 | 283 => 92 | 284 => 93 | 285 => 94 | 286 => 95 | 129 => 101 | 317 => 100 | 318 => 102 | 319 => 103 | 320 => 104 | 337 => 108 | 338 => 109 | n => n, fun | 9 => 9 | 3 => 3 | 75 => 94 | 76 => 95 | 4 => 4 | 5 => 5 | 167 => 128 | 37 => 69 | 0 => 0 | 85 => 129 | 2 => 2 | 168 => 131 | 53 => 66 | 175 => 140 | 46 => 112 | 210 => 143 | 127 => 120 | 145 => 153 | 143 => 151 | 21 => 21 | 171 => 136 | 173 => 138 | 212 => 147 | 51 => 92 | 20 => 20 | 213 => 148 | 232 => 155 | 233 => 156 | 80 => 68 | n => n, fun | 15 => 0 | 16 => 1 | 17 => 2 | 18 => 3 | 19 => 4 | n => n⟩
theorem Tryd.laysAtoi : Go.Proofs.LaysC.n172 Tryd.prog Tryd.laysAtoi_ren := {
  mixed := by kernel_rfl
  f129 := Tryd.func101.trans (congrArg some (by kernel_rfl))
  f171 := Tryd.func57.trans (congrArg some (by kernel_rfl))
  f172 := Tryd.func58.trans (congrArg some (by kernel_rfl))
  f205 := Tryd.func98.trans (congrArg some (by kernel_rfl))
  f243 := Tryd.func75.trans (congrArg some (by kernel_rfl))
  f244 := Tryd.func76.trans (congrArg some (by kernel_rfl))
  f245 := Tryd.func77.trans (congrArg some (by kernel_rfl))
  f246 := Tryd.func84.trans (congrArg some (by kernel_rfl))
  f247 := Tryd.func85.trans (congrArg some (by kernel_rfl))
  f279 := Tryd.func86.trans (congrArg some (by kernel_rfl))
  f280 := Tryd.func87.trans (congrArg some (by kernel_rfl))
  f281 := Tryd.func88.trans (congrArg some (by kernel_rfl))
  f282 := Tryd.func89.trans (congrArg some (by kernel_rfl))
  f283 := Tryd.func92.trans (congrArg some (by kernel_rfl))
  f284 := Tryd.func93.trans (congrArg some (by kernel_rfl))
  f285 := Tryd.func94.trans (congrArg some (by kernel_rfl))
  f286 := Tryd.func95.trans (congrArg some (by kernel_rfl))
  f287 := Tryd.func96.trans (congrArg some (by kernel_rfl))
  f316 := Tryd.func97.trans (congrArg some (by kernel_rfl))
  f317 := Tryd.func100.trans (congrArg some (by kernel_rfl))
  f318 := Tryd.func102.trans (congrArg some (by kernel_rfl))
  f319 := Tryd.func103.trans (congrArg some (by kernel_rfl))
  f320 := Tryd.func104.trans (congrArg some (by kernel_rfl))
  f321 := Tryd.func105.trans (congrArg some (by kernel_rfl))
  f322 := Tryd.func106.trans (congrArg some (by kernel_rfl))
  f337 := Tryd.func108.trans (congrArg some (by kernel_rfl))
  f338 := Tryd.func109.trans (congrArg some (by kernel_rfl))
  t0 := Tryd.underlying0
  a0 := Tryd.isAgg0
  z0 := Tryd.sizeOf0
  v0 := Tryd.zeroValue0
  t2 := Tryd.underlying2
  a2 := Tryd.isAgg2
  z2 := Tryd.sizeOf2
  v2 := Tryd.zeroValue2
  t3 := Tryd.underlying3
  a3 := Tryd.isAgg3
  z3 := Tryd.sizeOf3
  v3 := Tryd.zeroValue3
  t4 := Tryd.underlying4
  a4 := Tryd.isAgg4
  z4 := Tryd.sizeOf4
  v4 := Tryd.zeroValue4
  t5 := Tryd.underlying5
  a5 := Tryd.isAgg5
  z5 := Tryd.sizeOf5
  v5 := Tryd.zeroValue5
  t9 := Tryd.underlying9
  a9 := Tryd.isAgg9
  z9 := Tryd.sizeOf9
  v9 := Tryd.zeroValue9
  t20 := Tryd.underlying20
  a20 := Tryd.isAgg20
  z20 := Tryd.sizeOf20
  v20 := Tryd.zeroValue20
  t21 := Tryd.underlying21
  a21 := Tryd.isAgg21
  z21 := Tryd.sizeOf21
  v21 := Tryd.zeroValue21
  t37 := Tryd.underlying69
  a37 := Tryd.isAgg69
  z37 := Tryd.sizeOf69
  v37 := Tryd.zeroValue69
  t46 := Tryd.underlying112
  a46 := Tryd.isAgg112
  z46 := Tryd.sizeOf112
  v46 := Tryd.zeroValue112
  t51 := Tryd.underlying92
  a51 := Tryd.isAgg92
  z51 := Tryd.sizeOf92
  v51 := Tryd.zeroValue92
  t53 := Tryd.underlying66
  a53 := Tryd.isAgg66
  z53 := Tryd.sizeOf66
  v53 := Tryd.zeroValue66
  t75 := Tryd.underlying94
  a75 := Tryd.isAgg94
  z75 := Tryd.sizeOf94
  v75 := Tryd.zeroValue94
  t76 := Tryd.underlying95
  a76 := Tryd.isAgg95
  z76 := Tryd.sizeOf95
  v76 := Tryd.zeroValue95
  t85 := Tryd.underlying129
  a85 := Tryd.isAgg129
  z85 := Tryd.sizeOf129
  v85 := Tryd.zeroValue129
  t127 := Tryd.underlying120
  a127 := Tryd.isAgg120
  z127 := Tryd.sizeOf120
  v127 := Tryd.zeroValue120
  t143 := Tryd.underlying151
  a143 := Tryd.isAgg151
  z143 := Tryd.sizeOf151
  v143 := Tryd.zeroValue151
  t145 := Tryd.underlying153
  a145 := Tryd.isAgg153
  z145 := Tryd.sizeOf153
  v145 := Tryd.zeroValue153
  t167 := Tryd.underlying128
  a167 := Tryd.isAgg128
  z167 := Tryd.sizeOf128
  v167 := Tryd.zeroValue128
  t168 := Tryd.underlying131
  a168 := Tryd.isAgg131
  z168 := Tryd.sizeOf131
  v168 := Tryd.zeroValue131
  t171 := Tryd.underlying136
  a171 := Tryd.isAgg136
  z171 := Tryd.sizeOf136
  v171 := Tryd.zeroValue136
  t173 := Tryd.underlying138
  a173 := Tryd.isAgg138
  z173 := Tryd.sizeOf138
  v173 := Tryd.zeroValue138
  t175 := Tryd.underlying140
  a175 := Tryd.isAgg140
  z175 := Tryd.sizeOf140
  v175 := Tryd.zeroValue140
  t210 := Tryd.underlying143
  a210 := Tryd.isAgg143
  z210 := Tryd.sizeOf143
  v210 := Tryd.zeroValue143
  t212 := Tryd.underlying147
  a212 := Tryd.isAgg147
  z212 := Tryd.sizeOf147
  v212 := Tryd.zeroValue147
  t213 := Tryd.underlying148
  a213 := Tryd.isAgg148
  z213 := Tryd.sizeOf148
  t232 := Tryd.underlying155
  a232 := Tryd.isAgg155
  z232 := Tryd.sizeOf155
  v232 := Tryd.zeroValue155
  t233 := Tryd.underlying156
  a233 := Tryd.isAgg156
  z233 := Tryd.sizeOf156
  v233 := Tryd.zeroValue156
  g15 := by kernel_rfl
  g16 := by kernel_rfl
  g17 := by kernel_rfl
  g18 := by kernel_rfl
  g19 := by kernel_rfl
  t80 := Tryd.underlying68
  a80 := Tryd.isAgg68
  z80 := Tryd.sizeOf68
  v80 := Tryd.zeroValue68
  i0 := by kernel_rfl
  i2 := by kernel_rfl
  i3 := by kernel_rfl
  i4 := by kernel_rfl
  i5 := by kernel_rfl
  i9 := by kernel_rfl
  i20 := by kernel_rfl
  i21 := by kernel_rfl
  i37 := by kernel_rfl
  i46 := by kernel_rfl
  i51 := by kernel_rfl
  i53 := by kernel_rfl
  i75 := by kernel_rfl
  i76 := by kernel_rfl
  i80 := by kernel_rfl
  i85 := by kernel_rfl
  i127 := by kernel_rfl
  i143 := by kernel_rfl
  i145 := by kernel_rfl
  i167 := by kernel_rfl
  i168 := by kernel_rfl
  i171 := by kernel_rfl
  i173 := by kernel_rfl
  i175 := by kernel_rfl
  i210 := by kernel_rfl
  i212 := by kernel_rfl
  i232 := by kernel_rfl
  i233 := by kernel_rfl
  m15 := by kernel_rfl
  m16 := by kernel_rfl
  m17 := by kernel_rfl
  m18 := by kernel_rfl
  m19 := by kernel_rfl
  c0 := by kernel_rfl
  c2 := by kernel_rfl
  c3 := by kernel_rfl
  c4 := by kernel_rfl
  c5 := by kernel_rfl
  c9 := by kernel_rfl
  c20 := by kernel_rfl
  c21 := by kernel_rfl
  c37 := by kernel_rfl
  c46 := by kernel_rfl
  c51 := by kernel_rfl
  c53 := by kernel_rfl
  c75 := by kernel_rfl
  c76 := by kernel_rfl
  c80 := by kernel_rfl
  c85 := by kernel_rfl
  c127 := by kernel_rfl
  c143 := by kernel_rfl
  c145 := by kernel_rfl
  c167 := by kernel_rfl
  c168 := by kernel_rfl
  c171 := by kernel_rfl
  c173 := by kernel_rfl
  c175 := by kernel_rfl
  c210 := by kernel_rfl
  c212 := by kernel_rfl
  c213 := by kernel_rfl
  c232 := by kernel_rfl
  c233 := by kernel_rfl }
end Go.Proofs
namespace Go.Proofs.YtkncpdehgcldbaaDoor
open Go Go.Eng Go.Proofs Go.RowKit

/-- The blocks of strconv.ErrSyntax, strconv.ErrRange. -/
abbrev errG0 : Nat := 0
abbrev errG1 : Nat := 1
/-- The two variables hold errors. -/
structure ErrVars (w : World) : Prop where
  syn : ∃ t p, w.cell? ⟨errG0, 0, none⟩ = some (.iface t p)
  ran : ∃ t p, w.cell? ⟨errG1, 0, none⟩ = some (.iface t p)
theorem ErrVars.keep {w0 w : World} {T : List Nat} {H : Heap} (h : ErrVars w0) (hS : St w0 T H w) (h0 : errG0 ∉ T) (h1 : errG1 ∉ T) : ErrVars w := by
  obtain ⟨⟨t, p, e⟩, ⟨t', p', e'⟩⟩ := h
  exact ⟨⟨t, p, hS.oldCell h0 e⟩, ⟨t', p', hS.oldCell h1 e'⟩⟩
theorem ErrVars.apart {w : World} (h : ErrVars w) {b : Nat} {x : Value} {l : List Value} {t : TypeId} {fz : Nat × Nat} (hm : w.heap[b]? = some (.cells ⟨x :: l⟩ t fz)) (hx : ∀ t p, x ≠ .iface t p) : b ≠ errG0 ∧ b ≠ errG1 := by
  obtain ⟨⟨t0, p0, e0⟩, ⟨t1, p1, e1⟩⟩ := h
  refine ⟨fun e => ?_, fun e => ?_⟩
  · subst e
    simp [World.cell?, hm] at e0
    exact hx _ _ e0
  · subst e
    simp [World.cell?, hm] at e1
    exact hx _ _ e1
theorem St.of_below {w w' : World} (h : Below w.heap.size w w') : St w [] [] w' :=
  ⟨h.os, h.tape, h.output, h.size, fun b hb _ => h.block b hb, by simp, by simp [keys], by simp⟩
theorem atoiAll_rng {s : Bytes} {v : Int} (h : Lib.atoiAll s = .ok v) : -9223372036854775808 ≤ v ∧ v ≤ 9223372036854775807 := by
  unfold Lib.atoiAll at h
  split at h
  · cases h
  · simp only at h
    split at h
    · cases h
    · cases h
    · split at h
      · cases h
      · split at h
        · cases h
        · simp only [Lib.NumEnd.ok.injEq] at h
          subst h
          split <;> omega
theorem Atoi_specZ {w : World} {s : Bytes} (hs : s.length ≤ 281474976710656) (hE : ErrVars w) : Cl Tryd.prog f_strconv_Atoi [Str s] w fun v w' => St w [] [] w' ∧
    ∃ n ev, v = .tuple ⟨[.int .i64 n, ev]⟩ ∧ (-9223372036854775808 ≤ n ∧ n ≤ 9223372036854775807) ∧ ((Lib.atoiAll s = .ok n ∧ ev = .nilIface) ∨ ((∀ m, Lib.atoiAll s ≠ .ok m) ∧ (n ≤ 0 ∨ 99 < n) ∧ ∃ t p, ev = .iface t p)) := by
  have hsz : (ByteArray.mk (Array.mk s)).size = s.length := rfl
  obtain ⟨⟨t0, p0, e0⟩, ⟨t1, p1, e1⟩⟩ := hE
  refine .inl ⟨Tryd.call58 _ _, ?_⟩
  cases h : Lib.atoiAll s
  · next v =>
    refine Calls.mono (Any.strconv_Atoi_ok Tryd.laysAtoi ⟨⟨s⟩⟩ (by omega) v h w) ?_
    rintro e w' ⟨rfl, hw⟩
    refine ⟨_, rfl, ?_, v, .nilIface, rfl, atoiAll_rng h, .inl ⟨rfl, rfl⟩⟩
    rcases hw with rfl | ⟨t, rfl⟩
    · exact St.start _
    · exact St.of_below (Lib.bytesWorld_below _ _ _)
  · refine Calls.mono (Any.strconv_Atoi_syntax Tryd.laysAtoi ⟨⟨s⟩⟩ (by omega) h _ w e0 (.inr ⟨_, _, rfl⟩)) ?_
    rintro e w' ⟨M, rfl, -, -, hb⟩
    exact ⟨_, rfl, St.of_below hb, 0, _, rfl, ⟨by omega, by omega⟩, .inr ⟨(fun m hm => by cases hm), .inl (Int.le_refl 0), _, _, rfl⟩⟩
  · refine Calls.mono (Any.strconv_Atoi_range Tryd.laysAtoi ⟨⟨s⟩⟩ (by omega) h _ w e1 (.inr ⟨_, _, rfl⟩)) ?_
    rintro e w' ⟨M, rfl, -, -, hb⟩
    exact ⟨_, rfl, St.of_below hb, Lib.atoiSat s, _, rfl, (by unfold Lib.atoiSat; split <;> omega), .inr ⟨(fun m hm => by cases hm), (by unfold Lib.atoiSat; split <;> omega), _, _, rfl⟩⟩
theorem Atoi_spec {w : World} {s : Bytes} (hs : s.length ≤ 281474976710656) (hE : ErrVars w) : Cl Tryd.prog f_strconv_Atoi [Str s] w fun v w' => St w [] [] w' ∧
    ∃ n ev, v = .tuple ⟨[.int .i64 n, ev]⟩ ∧ ((Lib.atoiAll s = .ok n ∧ ev = .nilIface) ∨ ((∀ m, Lib.atoiAll s ≠ .ok m) ∧ (n ≤ 0 ∨ 99 < n) ∧ ∃ t p, ev = .iface t p)) :=
  (Atoi_specZ hs hE).mono fun _ _ ⟨h1, n, ev, h2, _, h3⟩ => ⟨h1, n, ev, h2, h3⟩
end Go.Proofs.YtkncpdehgcldbaaDoor
