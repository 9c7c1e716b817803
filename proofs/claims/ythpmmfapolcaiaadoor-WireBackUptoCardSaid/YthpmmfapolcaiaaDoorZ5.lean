/- Texts of this claim, one behind the other. -/
import Derived.Shelf.Strconv.AtoiAll
import Derived.Lib.AtoiErrMem
import Derived.Ground.NamesProg
import Derived.Test.YthpmmfapolcaiaaDoorProg
import Derived.Test.YthpmmfapolcaiaaDoorZ1
import Derived.Test.YthpmmfapolcaiaaDoorZ0
import Derived.WideLaws
import Derived.Test.YthpmmfapolcaiaaDoorZ3
import Derived.Test.YthpmmfapolcaiaaDoorZ2
import Derived.Test.YthpmmfapolcaiaaDoorZ4
/- The contracts on strconv.Atoi at every string, at this dump, by the kit's tool lay-plain; in the form of my own contracts. -/
namespace Go.Proofs
open Go.Shelf
def Tryd.laysAtoi_ren : Go.Shelf.Ren := ⟨fun | 172 => 68 | 244 => 76 | 245 => 77 | 247 => 82 | 279 => 83 | 280 => 84 | 281 => 85 | 282 => 86 | 287 => 91 | 316 => 92 | 171 => 67 | 205 => 93 | 321 => 99 | 322 => 100 | 243 => 75 | 246 => 81 | 283 => 87 | 284 => 88 | 285 => 89 | 286 => 90 | 129 => 95 | 317 => 94 | 318 => 96 | 319 => 97 | 320 => 98 | 337 => 101 | 338 => 102 | n => n, fun | 9 => 9 | 3 => 3 | 75 => 106 | 76 => 107 | 4 => 4 | 5 => 5 | 167 => 153 | 37 => 51 | 0 => 0 | 85 => 154 | 2 => 2 | 168 => 156 | 53 => 59 | 175 => 163 | 46 => 118 | 210 => 166 | 127 => 128 | 145 => 177 | 143 => 175 | 21 => 21 | 171 => 159 | 173 => 161 | 212 => 169 | 51 => 104 | 20 => 20 | 213 => 170 | 232 => 179 | 233 => 180 | 80 => 110 | n => n, fun | 15 => 0 | 16 => 1 | 17 => 2 | 18 => 3 | 19 => 4 | n => n⟩
theorem Tryd.laysAtoi : Go.Proofs.LaysC.n172 Tryd.prog Tryd.laysAtoi_ren := {
  mixed := by kernel_rfl
  f129 := Tryd.func95.trans (congrArg some (by kernel_rfl))
  f171 := Tryd.func67.trans (congrArg some (by kernel_rfl))
  f172 := Tryd.func68.trans (congrArg some (by kernel_rfl))
  f205 := Tryd.func93.trans (congrArg some (by kernel_rfl))
  f243 := Tryd.func75.trans (congrArg some (by kernel_rfl))
  f244 := Tryd.func76.trans (congrArg some (by kernel_rfl))
  f245 := Tryd.func77.trans (congrArg some (by kernel_rfl))
  f246 := Tryd.func81.trans (congrArg some (by kernel_rfl))
  f247 := Tryd.func82.trans (congrArg some (by kernel_rfl))
  f279 := Tryd.func83.trans (congrArg some (by kernel_rfl))
  f280 := Tryd.func84.trans (congrArg some (by kernel_rfl))
  f281 := Tryd.func85.trans (congrArg some (by kernel_rfl))
  f282 := Tryd.func86.trans (congrArg some (by kernel_rfl))
  f283 := Tryd.func87.trans (congrArg some (by kernel_rfl))
  f284 := Tryd.func88.trans (congrArg some (by kernel_rfl))
  f285 := Tryd.func89.trans (congrArg some (by kernel_rfl))
  f286 := Tryd.func90.trans (congrArg some (by kernel_rfl))
  f287 := Tryd.func91.trans (congrArg some (by kernel_rfl))
  f316 := Tryd.func92.trans (congrArg some (by kernel_rfl))
  f317 := Tryd.func94.trans (congrArg some (by kernel_rfl))
  f318 := Tryd.func96.trans (congrArg some (by kernel_rfl))
  f319 := Tryd.func97.trans (congrArg some (by kernel_rfl))
  f320 := Tryd.func98.trans (congrArg some (by kernel_rfl))
  f321 := Tryd.func99.trans (congrArg some (by kernel_rfl))
  f322 := Tryd.func100.trans (congrArg some (by kernel_rfl))
  f337 := Tryd.func101.trans (congrArg some (by kernel_rfl))
  f338 := Tryd.func102.trans (congrArg some (by kernel_rfl))
  t0 := Tryd.underlying0
  a0 := Tryd.isAgg0
  z0 := Tryd.sizeOf0
  v0 := Tryd.zeroValue0
  t2 := Tryd.underlying2
  a2 := Tryd.isAgg2
  z2 := Tryd.sizeOf2
  v2 := Tryd.zeroValue2
  t3 := Tryd.underlying3
  a3 := Tryd.isAgg3
  z3 := Tryd.sizeOf3
  v3 := Tryd.zeroValue3
  t4 := Tryd.underlying4
  a4 := Tryd.isAgg4
  z4 := Tryd.sizeOf4
  v4 := Tryd.zeroValue4
  t5 := Tryd.underlying5
  a5 := Tryd.isAgg5
  z5 := Tryd.sizeOf5
  v5 := Tryd.zeroValue5
  t9 := Tryd.underlying9
  a9 := Tryd.isAgg9
  z9 := Tryd.sizeOf9
  v9 := Tryd.zeroValue9
  t20 := Tryd.underlying20
  a20 := Tryd.isAgg20
  z20 := Tryd.sizeOf20
  v20 := Tryd.zeroValue20
  t21 := Tryd.underlying21
  a21 := Tryd.isAgg21
  z21 := Tryd.sizeOf21
  v21 := Tryd.zeroValue21
  t37 := Tryd.underlying51
  a37 := Tryd.isAgg51
  z37 := Tryd.sizeOf51
  v37 := Tryd.zeroValue51
  t46 := Tryd.underlying118
  a46 := Tryd.isAgg118
  z46 := Tryd.sizeOf118
  v46 := Tryd.zeroValue118
  t51 := Tryd.underlying104
  a51 := Tryd.isAgg104
  z51 := Tryd.sizeOf104
  v51 := Tryd.zeroValue104
  t53 := Tryd.underlying59
  a53 := Tryd.isAgg59
  z53 := Tryd.sizeOf59
  v53 := Tryd.zeroValue59
  t75 := Tryd.underlying106
  a75 := Tryd.isAgg106
  z75 := Tryd.sizeOf106
  v75 := Tryd.zeroValue106
  t76 := Tryd.underlying107
  a76 := Tryd.isAgg107
  z76 := Tryd.sizeOf107
  v76 := Tryd.zeroValue107
  t85 := Tryd.underlying154
  a85 := Tryd.isAgg154
  z85 := Tryd.sizeOf154
  v85 := Tryd.zeroValue154
  t127 := Tryd.underlying128
  a127 := Tryd.isAgg128
  z127 := Tryd.sizeOf128
  v127 := Tryd.zeroValue128
  t143 := Tryd.underlying175
  a143 := Tryd.isAgg175
  z143 := Tryd.sizeOf175
  v143 := Tryd.zeroValue175
  t145 := Tryd.underlying177
  a145 := Tryd.isAgg177
  z145 := Tryd.sizeOf177
  v145 := Tryd.zeroValue177
  t167 := Tryd.underlying153
  a167 := Tryd.isAgg153
  z167 := Tryd.sizeOf153
  v167 := Tryd.zeroValue153
  t168 := Tryd.underlying156
  a168 := Tryd.isAgg156
  z168 := Tryd.sizeOf156
  v168 := Tryd.zeroValue156
  t171 := Tryd.underlying159
  a171 := Tryd.isAgg159
  z171 := Tryd.sizeOf159
  v171 := Tryd.zeroValue159
  t173 := Tryd.underlying161
  a173 := Tryd.isAgg161
  z173 := Tryd.sizeOf161
  v173 := Tryd.zeroValue161
  t175 := Tryd.underlying163
  a175 := Tryd.isAgg163
  z175 := Tryd.sizeOf163
  v175 := Tryd.zeroValue163
  t210 := Tryd.underlying166
  a210 := Tryd.isAgg166
  z210 := Tryd.sizeOf166
  v210 := Tryd.zeroValue166
  t212 := Tryd.underlying169
  a212 := Tryd.isAgg169
  z212 := Tryd.sizeOf169
  v212 := Tryd.zeroValue169
  t213 := Tryd.underlying170
  a213 := Tryd.isAgg170
  z213 := Tryd.sizeOf170
  t232 := Tryd.underlying179
  a232 := Tryd.isAgg179
  z232 := Tryd.sizeOf179
  v232 := Tryd.zeroValue179
  t233 := Tryd.underlying180
  a233 := Tryd.isAgg180
  z233 := Tryd.sizeOf180
  v233 := Tryd.zeroValue180
  g15 := by kernel_rfl
  g16 := by kernel_rfl
  g17 := by kernel_rfl
  g18 := by kernel_rfl
  g19 := by kernel_rfl
  t80 := Tryd.underlying110
  a80 := Tryd.isAgg110
  z80 := Tryd.sizeOf110
  v80 := Tryd.zeroValue110
  i0 := by kernel_rfl
  i2 := by kernel_rfl
  i3 := by kernel_rfl
  i4 := by kernel_rfl
  i5 := by kernel_rfl
  i9 := by kernel_rfl
  i20 := by kernel_rfl
  i21 := by kernel_rfl
  i37 := by kernel_rfl
  i46 := by kernel_rfl
  i51 := by kernel_rfl
  i53 := by kernel_rfl
  i75 := by kernel_rfl
  i76 := by kernel_rfl
  i80 := by kernel_rfl
  i85 := by kernel_rfl
  i127 := by kernel_rfl
  i143 := by kernel_rfl
  i145 := by kernel_rfl
  i167 := by kernel_rfl
  i168 := by kernel_rfl
  i171 := by kernel_rfl
  i173 := by kernel_rfl
  i175 := by kernel_rfl
  i210 := by kernel_rfl
  i212 := by kernel_rfl
  i232 := by kernel_rfl
  i233 := by kernel_rfl
  m15 := by kernel_rfl
  m16 := by kernel_rfl
  m17 := by kernel_rfl
  m18 := by kernel_rfl
  m19 := by kernel_rfl
  c0 := by kernel_rfl
  c2 := by kernel_rfl
  c3 := by kernel_rfl
  c4 := by kernel_rfl
  c5 := by kernel_rfl
  c9 := by kernel_rfl
  c20 := by kernel_rfl
  c21 := by kernel_rfl
  c37 := by kernel_rfl
  c46 := by kernel_rfl
  c51 := by kernel_rfl
  c53 := by kernel_rfl
  c75 := by kernel_rfl
  c76 := by kernel_rfl
  c80 := by kernel_rfl
  c85 := by kernel_rfl
  c127 := by kernel_rfl
  c143 := by kernel_rfl
  c145 := by kernel_rfl
  c167 := by kernel_rfl
  c168 := by kernel_rfl
  c171 := by kernel_rfl
  c173 := by kernel_rfl
  c175 := by kernel_rfl
  c210 := by kernel_rfl
  c212 := by kernel_rfl
  c213 := by kernel_rfl
  c232 := by kernel_rfl
  c233 := by kernel_rfl }
end Go.Proofs
namespace Go.Proofs.YthpmmfapolcaiaaDoor
open Go Go.Eng Go.Proofs Go.RowKit

/-- The blocks of strconv.ErrSyntax, strconv.ErrRange. -/
abbrev errG0 : Nat := 0
abbrev errG1 : Nat := 1
/-- The two variables hold errors. -/
structure ErrVars (w : World) : Prop where
  syn : ∃ t p, w.cell? ⟨errG0, 0, none⟩ = some (.iface t p)
  ran : ∃ t p, w.cell? ⟨errG1, 0, none⟩ = some (.iface t p)
theorem ErrVars.keep {w0 w : World} {T : List Nat} {H : Heap} (h : ErrVars w0) (hS : St w0 T H w) (h0 : errG0 ∉ T) (h1 : errG1 ∉ T) : ErrVars w := by
  obtain ⟨⟨t, p, e⟩, ⟨t', p', e'⟩⟩ := h
  exact ⟨⟨t, p, hS.oldCell h0 e⟩, ⟨t', p', hS.oldCell h1 e'⟩⟩
theorem ErrVars.apart {w : World} (h : ErrVars w) {b : Nat} {x : Value} {l : List Value} {t : TypeId} {fz : Nat × Nat} (hm : w.heap[b]? = some (.cells ⟨x :: l⟩ t fz)) (hx : ∀ t p, x ≠ .iface t p) : b ≠ errG0 ∧ b ≠ errG1 := by
  obtain ⟨⟨t0, p0, e0⟩, ⟨t1, p1, e1⟩⟩ := h
  refine ⟨fun e => ?_, fun e => ?_⟩
  · subst e
    simp [World.cell?, hm] at e0
    exact hx _ _ e0
  · subst e
    simp [World.cell?, hm] at e1
    exact hx _ _ e1
theorem St.of_below {w w' : World} (h : Below w.heap.size w w') : St w [] [] w' :=
  ⟨h.os, h.tape, h.output, h.size, fun b hb _ => h.block b hb, by simp, by simp [keys], by simp⟩
theorem atoiAll_rng {s : Bytes} {v : Int} (h : Lib.atoiAll s = .ok v) : -9223372036854775808 ≤ v ∧ v ≤ 9223372036854775807 := by
  unfold Lib.atoiAll at h
  split at h
  · cases h
  · simp only at h
    split at h
    · cases h
    · cases h
    · split at h
      · cases h
      · split at h
        · cases h
        · simp only [Lib.NumEnd.ok.injEq] at h
          subst h
          split <;> omega
theorem Atoi_specZ {w : World} {s : Bytes} (hs : s.length ≤ 281474976710656) (hE : ErrVars w) : Cl Tryd.prog f_strconv_Atoi [Str s] w fun v w' => St w [] [] w' ∧
    ∃ n ev, v = .tuple ⟨[.int .i64 n, ev]⟩ ∧ (-9223372036854775808 ≤ n ∧ n ≤ 9223372036854775807) ∧ ((Lib.atoiAll s = .ok n ∧ ev = .nilIface) ∨ ((∀ m, Lib.atoiAll s ≠ .ok m) ∧ (n ≤ 0 ∨ 99 < n) ∧ ∃ t p, ev = .iface t p)) := by
  have hsz : (ByteArray.mk (Array.mk s)).size = s.length := rfl
  obtain ⟨⟨t0, p0, e0⟩, ⟨t1, p1, e1⟩⟩ := hE
  refine .inl ⟨Tryd.call68 _ _, ?_⟩
  cases h : Lib.atoiAll s
  · next v =>
    refine Calls.mono (Any.strconv_Atoi_ok Tryd.laysAtoi ⟨⟨s⟩⟩ (by omega) v h w) ?_
    rintro e w' ⟨rfl, hw⟩
    refine ⟨_, rfl, ?_, v, .nilIface, rfl, atoiAll_rng h, .inl ⟨rfl, rfl⟩⟩
    rcases hw with rfl | ⟨t, rfl⟩
    · exact St.start _
    · exact St.of_below (Lib.bytesWorld_below _ _ _)
  · refine Calls.mono (Any.strconv_Atoi_syntax Tryd.laysAtoi ⟨⟨s⟩⟩ (by omega) h _ w e0 (.inr ⟨_, _, rfl⟩)) ?_
    rintro e w' ⟨M, rfl, -, -, hb⟩
    exact ⟨_, rfl, St.of_below hb, 0, _, rfl, ⟨by omega, by omega⟩, .inr ⟨(fun m hm => by cases hm), .inl (Int.le_refl 0), _, _, rfl⟩⟩
  · refine Calls.mono (Any.strconv_Atoi_range Tryd.laysAtoi ⟨⟨s⟩⟩ (by omega) h _ w e1 (.inr ⟨_, _, rfl⟩)) ?_
    rintro e w' ⟨M, rfl, -, -, hb⟩
    exact ⟨_, rfl, St.of_below hb, Lib.atoiSat s, _, rfl, (by unfold Lib.atoiSat; split <;> omega), .inr ⟨(fun m hm => by cases hm), (by unfold Lib.atoiSat; split <;> omega), _, _, rfl⟩⟩
theorem Atoi_spec {w : World} {s : Bytes} (hs : s.length ≤ 281474976710656) (hE : ErrVars w) : Cl Tryd.prog f_strconv_Atoi [Str s] w fun v w' => St w [] [] w' ∧
    ∃ n ev, v = .tuple ⟨[.int .i64 n, ev]⟩ ∧ ((Lib.atoiAll s = .ok n ∧ ev = .nilIface) ∨ ((∀ m, Lib.atoiAll s ≠ .ok m) ∧ (n ≤ 0 ∨ 99 < n) ∧ ∃ t p, ev = .iface t p)) :=
  (Atoi_specZ hs hE).mono fun _ _ ⟨h1, n, ev, h2, _, h3⟩ => ⟨h1, n, ev, h2, h3⟩
end Go.Proofs.YthpmmfapolcaiaaDoor

/- Comparing an error with nil. -/
namespace Go.Eng
open Go
theorem neqHeld {P : Program} {T0 : Tbl} (hT : TOk P T0) {t : TypeId} {i : TI} (hi : tf T0 t = some i) (hk : i.k = .iface) {x y : Operand} {u : TypeId} {v : Value} {K : Value → Prop} (hK : K (.bool true)) :
    PureRun P (do eqGuard .neq t x y (.iface u v) .nilIface; binOp .neq t (.iface u v) .nilIface) K := by
  have h := und_of hT hi; rw [hk] at h
  obtain ⟨ms, h⟩ := h
  have h2 : P.underlying t = some (.interface (P.methodsAt t)) := by simp [Program.methodsAt, h]
  refine ⟨_, fun w => ?_, hK⟩
  rw [Sem.run_bind, run_eqGuard_of P .neq t x y _ _ w (by intro c h; cases h) (by intro h; cases h)]
  exact run_neq_held_nil w t u v h2
theorem neqNilNil {P : Program} {T0 : Tbl} (hT : TOk P T0) {t : TypeId} {i : TI} (hi : tf T0 t = some i) (hk : i.k = .iface) {x : Operand} {c : Value} {K : Value → Prop} (hK : K (.bool false)) :
    PureRun P (do eqGuard .neq t x (.const c) .nilIface .nilIface; binOp .neq t .nilIface .nilIface) K := by
  have h := und_of hT hi; rw [hk] at h
  obtain ⟨ms, h⟩ := h
  have h2 : P.underlying t = some (.interface (P.methodsAt t)) := by simp [Program.methodsAt, h]
  refine ⟨_, fun w => ?_, hK⟩
  have h3 : (eqGuard .neq t x (.const c) .nilIface .nilIface).run P w = .ok () w := by simp [eqGuard]
  rw [Sem.run_bind, h3]
  exact run_neq_nil_nil w t h2
end Go.Eng

/- cabin.Parse; strings.CutPrefix. -/
namespace Go.Proofs.YthpmmfapolcaiaaDoor
open Go Go.Eng Go.Proofs

/-- The seat of a text. -/
def parseB (s : Bytes) : Option (Int × Nat) := match s.getLast? with
  | none => none
  | some c => match Lib.atoiAll s.dropLast with
    | .ok n => if labelB n c.toNat = s then some (n, c.toNat) else none
    | _ => none
theorem atoi_dig : ∀ n : Fin 100, 1 ≤ n.val → Lib.atoiAll (digB n.val) = .ok (n.val : Int) := by decide +kernel
theorem parseB_label {n : Int} {c : Nat} (h : seatOk n c = true) : parseB (labelB n c) = some (n, c) := by
  obtain ⟨h1, h2, h3, h4⟩ := seatOk_iff.1 h
  have e : labelB n c = digB n.toNat ++ [UInt8.ofNat c] := by unfold labelB; rw [if_pos h]
  have hc : (UInt8.ofNat c).toNat = c := by simp; omega
  have ha := atoi_dig ⟨n.toNat, by omega⟩ (by show 1 ≤ n.toNat; omega)
  simp only at ha
  have hn : ((n.toNat : Nat) : Int) = n := by omega
  rw [hn] at ha
  have hgl : (labelB n c).getLast? = some (UInt8.ofNat c) := by rw [e]; simp
  have hdl : (labelB n c).dropLast = digB n.toNat := by rw [e]; simp
  unfold parseB
  rw [hgl]
  simp only
  rw [hdl, ha]
  simp only
  rw [hc, if_pos rfl]
theorem parseB_some {s : Bytes} {n : Int} {c : Nat} (h : parseB s = some (n, c)) : seatOk n c = true ∧ labelB n c = s := by
  unfold parseB at h
  cases hl : s.getLast? with
  | none => rw [hl] at h; cases h
  | some x =>
    rw [hl] at h
    simp only at h
    cases ha : Lib.atoiAll s.dropLast
    · rename_i m
      rw [ha] at h
      simp only at h
      split at h
      · rename_i he
        simp only [Option.some.injEq, Prod.mk.injEq] at h
        obtain ⟨rfl, rfl⟩ := h
        refine ⟨?_, he⟩
        cases hs : seatOk m x.toNat with
        | true => rfl
        | false =>
          have : labelB m x.toNat = [45] := (labelB_dash _ _).2 hs
          rw [this] at he
          subst he
          cases ha
      · cases h
    · rw [ha] at h; cases h
    · rw [ha] at h; cases h
/-- What Parse answers. -/
def parseO (s : Bytes) : Int × Nat × Bool := match parseB s with
  | some (n, c) => (n, c, true)
  | none => (0, 0, false)
def seatAt (n : Int) (c : Nat) : Value := .agg ⟨[.int .i64 n, .int .u8 c]⟩
set_option maxHeartbeats 1000000 in
theorem Parse_spec {w : World} {s : Bytes} (hs : s.length ≤ 70368744177664) (hE : ErrVars w) :
    Cl Tryd.prog f_cabin_Parse [Str s] w fun v w' => v = .tuple ⟨[seatAt (parseO s).1 (parseO s).2.1, .bool (parseO s).2.2]⟩ ∧ St w [] [] w' := by
  have hS := St.start w
  refine en_cabin_Parse rfl ?_
  unfold seatAt parseO
  rcases List.eq_nil_or_concat s with rfl | ⟨s', c, rfl⟩
  · have hp : parseB [] = none := rfl
    rw [hp]
    repeat (first | refine SemW.run tblOk ?_ | refine IntG.nw (by omega) ?_ | refine IntG.nu8 (by omega) ?_ | refine IntG.nu32 (by omega) ?_ | refine IntG.nu64 (by omega) ?_ | refine IntG.wr' rfl ?_ | refine Chk.mk (by omega) ?_ | (refine BrG.id ?_; first | with_reducible refine BrG.t ?_ | with_reducible refine BrG.f ?_ | with_reducible refine BrG.notG ?_ | with_reducible refine BrG.nn ?_ | with_reducible refine BrG.ns ?_ | refine BrG.pos (by omega) ?_ | refine BrG.neg (by omega) ?_ | with_reducible refine BrG.pos rfl ?_ | refine BrG.pos (by assumption) ?_ | refine BrG.neg (by assumption) ?_ | refine BrG.pos (by decide) ?_ | refine BrG.neg (by decide) ?_) | refine Chk.mk (ptr_ok tblOk rfl rfl) ?_ | refine NilG.mk (fun _ => by kernel_rfl) ?_ | refine Chk.mk (by decide) ?_)
    refine hS.al ?_
    intro b w1 _ hS
    repeat (first | refine SemW.run tblOk ?_ | refine IntG.nw (by omega) ?_ | refine IntG.nu8 (by omega) ?_ | refine IntG.nu32 (by omega) ?_ | refine IntG.nu64 (by omega) ?_ | refine IntG.wr' rfl ?_ | refine Chk.mk (by omega) ?_ | (refine BrG.id ?_; first | with_reducible refine BrG.t ?_ | with_reducible refine BrG.f ?_ | with_reducible refine BrG.notG ?_ | with_reducible refine BrG.nn ?_ | with_reducible refine BrG.ns ?_ | refine BrG.pos (by omega) ?_ | refine BrG.neg (by omega) ?_ | with_reducible refine BrG.pos rfl ?_ | refine BrG.pos (by assumption) ?_ | refine BrG.neg (by assumption) ?_ | refine BrG.pos (by decide) ?_ | refine BrG.neg (by decide) ?_) | refine Chk.mk (ptr_ok tblOk rfl rfl) ?_ | refine NilG.mk (fun _ => by kernel_rfl) ?_ | refine Chk.mk (by decide) ?_ | refine hS.ld rfl ?_ | refine hS.ldn rfl ?_ | (refine hS.st rfl rfl ?_; intro _ hS))
    exact ⟨rfl, hS.nil⟩
  · have hsl : (s' ++ [c]).length = s'.length + 1 := by simp
    have htk : (s' ++ [c]).take s'.length = s' := by simp
    have hgl : (s' ++ [c]).getLast? = some c := by simp
    have hdl : (s' ++ [c]).dropLast = s' := by simp
    have hne : ¬ (s' ++ [c]) = [] := by simp
    have hcc : (s' ++ [c]).getD s'.length 0 = c := by simp
    rw [List.concat_eq_append] at *
    obtain ⟨s, hse⟩ : ∃ s, s = s' ++ [c] := ⟨_, rfl⟩
    rw [← hse] at hs hsl htk hgl hdl hne hcc ⊢
    have hcl := c.toNat_lt
    repeat (first | refine SemW.run tblOk ?_ | refine IntG.nw (by omega) ?_ | refine IntG.nu8 (by omega) ?_ | refine IntG.nu32 (by omega) ?_ | refine IntG.nu64 (by omega) ?_ | refine IntG.wr' rfl ?_ | refine Chk.mk (by omega) ?_ | (refine BrG.id ?_; first | with_reducible refine BrG.t ?_ | with_reducible refine BrG.f ?_ | with_reducible refine BrG.notG ?_ | with_reducible refine BrG.nn ?_ | with_reducible refine BrG.ns ?_ | refine BrG.pos (by omega) ?_ | refine BrG.neg (by omega) ?_ | with_reducible refine BrG.pos rfl ?_ | refine BrG.pos (by assumption) ?_ | refine BrG.neg (by assumption) ?_ | refine BrG.pos (by decide) ?_ | refine BrG.neg (by decide) ?_) | refine Chk.mk (ptr_ok tblOk rfl rfl) ?_ | refine NilG.mk (fun _ => by kernel_rfl) ?_ | refine Chk.mk (by decide) ?_)
    refine hS.al ?_
    intro b w1 _ hS
    have hE1 := hE.keep hS (by simp) (by simp)
    repeat (first | refine SemW.run tblOk ?_ | refine IntG.nw (by omega) ?_ | refine IntG.nu8 (by omega) ?_ | refine IntG.nu32 (by omega) ?_ | refine IntG.nu64 (by omega) ?_ | refine IntG.wr' rfl ?_ | refine Chk.mk (by omega) ?_ | (refine BrG.id ?_; first | with_reducible refine BrG.t ?_ | with_reducible refine BrG.f ?_ | with_reducible refine BrG.notG ?_ | with_reducible refine BrG.nn ?_ | with_reducible refine BrG.ns ?_ | refine BrG.pos (by omega) ?_ | refine BrG.neg (by omega) ?_ | with_reducible refine BrG.pos rfl ?_ | refine BrG.pos (by assumption) ?_ | refine BrG.neg (by assumption) ?_ | refine BrG.pos (by decide) ?_ | refine BrG.neg (by decide) ?_) | refine Chk.mk (ptr_ok tblOk rfl rfl) ?_ | refine NilG.mk (fun _ => by kernel_rfl) ?_ | refine Chk.mk (by decide) ?_ | refine hS.ld rfl ?_ | refine hS.ldn rfl ?_ | (refine hS.st rfl rfl ?_; intro _ hS))
    have e1 : ((s.length : Int) - 1).toNat = s'.length := by omega
    rw [e1, htk]
    refine Cl.mono (Atoi_spec (s := s') (by omega) hE1) ?_
    rintro _ w2 ⟨hS', n, ev, rfl, hev⟩
    have hS := hS.call0 hS'
    have hpb : parseB s = match Lib.atoiAll s' with
        | .ok n => if labelB n c.toNat = s then some (n, c.toNat) else none
        | _ => none := by unfold parseB; rw [hgl]; simp only; rw [hdl]
    rcases hev with ⟨ha, rfl⟩ | ⟨ha, -, t, q, rfl⟩
    · rw [ha] at hpb
      simp only at hpb
      have hLb := Label_spec (w := w2) n c.toNat hcl
      by_cases hlab : labelB n c.toNat = s
      · rw [if_pos hlab] at hpb
        rw [hpb]
        repeat (first | refine SemW.run tblOk ?_ | refine IntG.nw (by omega) ?_ | refine IntG.nu8 (by omega) ?_ | refine IntG.nu32 (by omega) ?_ | refine IntG.nu64 (by omega) ?_ | refine IntG.wr' rfl ?_ | refine Chk.mk (by omega) ?_ | (refine BrG.id ?_; first | with_reducible refine BrG.t ?_ | with_reducible refine BrG.f ?_ | with_reducible refine BrG.notG ?_ | with_reducible refine BrG.nn ?_ | with_reducible refine BrG.ns ?_ | refine BrG.pos (by omega) ?_ | refine BrG.neg (by omega) ?_ | with_reducible refine BrG.pos rfl ?_ | refine BrG.pos (by assumption) ?_ | refine BrG.neg (by assumption) ?_ | refine BrG.pos (by decide) ?_ | refine BrG.neg (by decide) ?_) | refine Chk.mk (ptr_ok tblOk rfl rfl) ?_ | refine NilG.mk (fun _ => by kernel_rfl) ?_ | refine Chk.mk (by decide) ?_ | refine hS.ld rfl ?_ | refine hS.ldn rfl ?_ | (refine hS.st rfl rfl ?_; intro _ hS))
        rw [e1, hcc]
        repeat (first | refine SemW.run tblOk ?_ | refine IntG.nw (by omega) ?_ | refine IntG.nu8 (by omega) ?_ | refine IntG.nu32 (by omega) ?_ | refine IntG.nu64 (by omega) ?_ | refine IntG.wr' rfl ?_ | refine Chk.mk (by omega) ?_ | (refine BrG.id ?_; first | with_reducible refine BrG.t ?_ | with_reducible refine BrG.f ?_ | with_reducible refine BrG.notG ?_ | with_reducible refine BrG.nn ?_ | with_reducible refine BrG.ns ?_ | refine BrG.pos (by omega) ?_ | refine BrG.neg (by omega) ?_ | with_reducible refine BrG.pos rfl ?_ | refine BrG.pos (by assumption) ?_ | refine BrG.neg (by assumption) ?_ | refine BrG.pos (by decide) ?_ | refine BrG.neg (by decide) ?_) | refine Chk.mk (ptr_ok tblOk rfl rfl) ?_ | refine NilG.mk (fun _ => by kernel_rfl) ?_ | refine Chk.mk (by decide) ?_ | refine hS.ld rfl ?_ | refine hS.ldn rfl ?_ | (refine hS.st rfl rfl ?_; intro _ hS))
        refine hS.al ?_
        intro b2 w3 _ hS
        repeat (first | refine SemW.run tblOk ?_ | refine IntG.nw (by omega) ?_ | refine IntG.nu8 (by omega) ?_ | refine IntG.nu32 (by omega) ?_ | refine IntG.nu64 (by omega) ?_ | refine IntG.wr' rfl ?_ | refine Chk.mk (by omega) ?_ | (refine BrG.id ?_; first | with_reducible refine BrG.t ?_ | with_reducible refine BrG.f ?_ | with_reducible refine BrG.notG ?_ | with_reducible refine BrG.nn ?_ | with_reducible refine BrG.ns ?_ | refine BrG.pos (by omega) ?_ | refine BrG.neg (by omega) ?_ | with_reducible refine BrG.pos rfl ?_ | refine BrG.pos (by assumption) ?_ | refine BrG.neg (by assumption) ?_ | refine BrG.pos (by decide) ?_ | refine BrG.neg (by decide) ?_) | refine Chk.mk (ptr_ok tblOk rfl rfl) ?_ | refine NilG.mk (fun _ => by kernel_rfl) ?_ | refine Chk.mk (by decide) ?_ | refine hS.ld rfl ?_ | refine hS.ldn rfl ?_ | (refine hS.st rfl rfl ?_; intro _ hS))
        refine neqNilNil tblOk rfl rfl ?_
        repeat (first | refine SemW.run tblOk ?_ | refine IntG.nw (by omega) ?_ | refine IntG.nu8 (by omega) ?_ | refine IntG.nu32 (by omega) ?_ | refine IntG.nu64 (by omega) ?_ | refine IntG.wr' rfl ?_ | refine Chk.mk (by omega) ?_ | (refine BrG.id ?_; first | with_reducible refine BrG.t ?_ | with_reducible refine BrG.f ?_ | with_reducible refine BrG.notG ?_ | with_reducible refine BrG.nn ?_ | with_reducible refine BrG.ns ?_ | refine BrG.pos (by omega) ?_ | refine BrG.neg (by omega) ?_ | with_reducible refine BrG.pos rfl ?_ | refine BrG.pos (by assumption) ?_ | refine BrG.neg (by assumption) ?_ | refine BrG.pos (by decide) ?_ | refine BrG.neg (by decide) ?_) | refine Chk.mk (ptr_ok tblOk rfl rfl) ?_ | refine NilG.mk (fun _ => by kernel_rfl) ?_ | refine Chk.mk (by decide) ?_ | refine hS.ld rfl ?_ | refine hS.ldn rfl ?_ | (refine hS.st rfl rfl ?_; intro _ hS))
        refine Cl.mono (Label_spec n c.toNat hcl) ?_
        rintro _ w4 ⟨rfl, hS'⟩
        have hS := hS.call0 hS'
        rw [hlab]
        repeat (first | refine SemW.run tblOk ?_ | refine IntG.nw (by omega) ?_ | refine IntG.nu8 (by omega) ?_ | refine IntG.nu32 (by omega) ?_ | refine IntG.nu64 (by omega) ?_ | refine IntG.wr' rfl ?_ | refine Chk.mk (by omega) ?_ | (refine BrG.id ?_; first | with_reducible refine BrG.t ?_ | with_reducible refine BrG.f ?_ | with_reducible refine BrG.notG ?_ | with_reducible refine BrG.nn ?_ | with_reducible refine BrG.ns ?_ | refine BrG.pos (by omega) ?_ | refine BrG.neg (by omega) ?_ | with_reducible refine BrG.pos rfl ?_ | refine BrG.pos (by assumption) ?_ | refine BrG.neg (by assumption) ?_ | refine BrG.pos (by decide) ?_ | refine BrG.neg (by decide) ?_) | refine Chk.mk (ptr_ok tblOk rfl rfl) ?_ | refine NilG.mk (fun _ => by kernel_rfl) ?_ | refine Chk.mk (by decide) ?_ | refine hS.ld rfl ?_ | refine hS.ldn rfl ?_ | (refine hS.st rfl rfl ?_; intro _ hS))
        exact ⟨rfl, hS.nil⟩
      · rw [if_neg hlab] at hpb
        rw [hpb]
        repeat (first | refine SemW.run tblOk ?_ | refine IntG.nw (by omega) ?_ | refine IntG.nu8 (by omega) ?_ | refine IntG.nu32 (by omega) ?_ | refine IntG.nu64 (by omega) ?_ | refine IntG.wr' rfl ?_ | refine Chk.mk (by omega) ?_ | (refine BrG.id ?_; first | with_reducible refine BrG.t ?_ | with_reducible refine BrG.f ?_ | with_reducible refine BrG.notG ?_ | with_reducible refine BrG.nn ?_ | with_reducible refine BrG.ns ?_ | refine BrG.pos (by omega) ?_ | refine BrG.neg (by omega) ?_ | with_reducible refine BrG.pos rfl ?_ | refine BrG.pos (by assumption) ?_ | refine BrG.neg (by assumption) ?_ | refine BrG.pos (by decide) ?_ | refine BrG.neg (by decide) ?_) | refine Chk.mk (ptr_ok tblOk rfl rfl) ?_ | refine NilG.mk (fun _ => by kernel_rfl) ?_ | refine Chk.mk (by decide) ?_ | refine hS.ld rfl ?_ | refine hS.ldn rfl ?_ | (refine hS.st rfl rfl ?_; intro _ hS))
        rw [e1, hcc]
        repeat (first | refine SemW.run tblOk ?_ | refine IntG.nw (by omega) ?_ | refine IntG.nu8 (by omega) ?_ | refine IntG.nu32 (by omega) ?_ | refine IntG.nu64 (by omega) ?_ | refine IntG.wr' rfl ?_ | refine Chk.mk (by omega) ?_ | (refine BrG.id ?_; first | with_reducible refine BrG.t ?_ | with_reducible refine BrG.f ?_ | with_reducible refine BrG.notG ?_ | with_reducible refine BrG.nn ?_ | with_reducible refine BrG.ns ?_ | refine BrG.pos (by omega) ?_ | refine BrG.neg (by omega) ?_ | with_reducible refine BrG.pos rfl ?_ | refine BrG.pos (by assumption) ?_ | refine BrG.neg (by assumption) ?_ | refine BrG.pos (by decide) ?_ | refine BrG.neg (by decide) ?_) | refine Chk.mk (ptr_ok tblOk rfl rfl) ?_ | refine NilG.mk (fun _ => by kernel_rfl) ?_ | refine Chk.mk (by decide) ?_ | refine hS.ld rfl ?_ | refine hS.ldn rfl ?_ | (refine hS.st rfl rfl ?_; intro _ hS))
        refine hS.al ?_
        intro b2 w3 _ hS
        repeat (first | refine SemW.run tblOk ?_ | refine IntG.nw (by omega) ?_ | refine IntG.nu8 (by omega) ?_ | refine IntG.nu32 (by omega) ?_ | refine IntG.nu64 (by omega) ?_ | refine IntG.wr' rfl ?_ | refine Chk.mk (by omega) ?_ | (refine BrG.id ?_; first | with_reducible refine BrG.t ?_ | with_reducible refine BrG.f ?_ | with_reducible refine BrG.notG ?_ | with_reducible refine BrG.nn ?_ | with_reducible refine BrG.ns ?_ | refine BrG.pos (by omega) ?_ | refine BrG.neg (by omega) ?_ | with_reducible refine BrG.pos rfl ?_ | refine BrG.pos (by assumption) ?_ | refine BrG.neg (by assumption) ?_ | refine BrG.pos (by decide) ?_ | refine BrG.neg (by decide) ?_) | refine Chk.mk (ptr_ok tblOk rfl rfl) ?_ | refine NilG.mk (fun _ => by kernel_rfl) ?_ | refine Chk.mk (by decide) ?_ | refine hS.ld rfl ?_ | refine hS.ldn rfl ?_ | (refine hS.st rfl rfl ?_; intro _ hS))
        refine neqNilNil tblOk rfl rfl ?_
        repeat (first | refine SemW.run tblOk ?_ | refine IntG.nw (by omega) ?_ | refine IntG.nu8 (by omega) ?_ | refine IntG.nu32 (by omega) ?_ | refine IntG.nu64 (by omega) ?_ | refine IntG.wr' rfl ?_ | refine Chk.mk (by omega) ?_ | (refine BrG.id ?_; first | with_reducible refine BrG.t ?_ | with_reducible refine BrG.f ?_ | with_reducible refine BrG.notG ?_ | with_reducible refine BrG.nn ?_ | with_reducible refine BrG.ns ?_ | refine BrG.pos (by omega) ?_ | refine BrG.neg (by omega) ?_ | with_reducible refine BrG.pos rfl ?_ | refine BrG.pos (by assumption) ?_ | refine BrG.neg (by assumption) ?_ | refine BrG.pos (by decide) ?_ | refine BrG.neg (by decide) ?_) | refine Chk.mk (ptr_ok tblOk rfl rfl) ?_ | refine NilG.mk (fun _ => by kernel_rfl) ?_ | refine Chk.mk (by decide) ?_ | refine hS.ld rfl ?_ | refine hS.ldn rfl ?_ | (refine hS.st rfl rfl ?_; intro _ hS))
        refine Cl.mono (Label_spec n c.toNat hcl) ?_
        rintro _ w4 ⟨rfl, hS'⟩
        have hS := hS.call0 hS'
        repeat (first | refine SemW.run tblOk ?_ | refine IntG.nw (by omega) ?_ | refine IntG.nu8 (by omega) ?_ | refine IntG.nu32 (by omega) ?_ | refine IntG.nu64 (by omega) ?_ | refine IntG.wr' rfl ?_ | refine Chk.mk (by omega) ?_ | (refine BrG.id ?_; first | with_reducible refine BrG.t ?_ | with_reducible refine BrG.f ?_ | with_reducible refine BrG.notG ?_ | with_reducible refine BrG.nn ?_ | with_reducible refine BrG.ns ?_ | refine BrG.pos (by omega) ?_ | refine BrG.neg (by omega) ?_ | with_reducible refine BrG.pos rfl ?_ | refine BrG.pos (by assumption) ?_ | refine BrG.neg (by assumption) ?_ | refine BrG.pos (by decide) ?_ | refine BrG.neg (by decide) ?_) | refine Chk.mk (ptr_ok tblOk rfl rfl) ?_ | refine NilG.mk (fun _ => by kernel_rfl) ?_ | refine Chk.mk (by decide) ?_ | refine hS.ld rfl ?_ | refine hS.ldn rfl ?_ | (refine hS.st rfl rfl ?_; intro _ hS))
        exact ⟨rfl, hS.nil⟩
    · have hpn : parseB s = none := by
        rw [hpb]
        cases h : Lib.atoiAll s'
        · exact absurd h (ha _)
        · rfl
        · rfl
      rw [hpn]
      repeat (first | refine SemW.run tblOk ?_ | refine IntG.nw (by omega) ?_ | refine IntG.nu8 (by omega) ?_ | refine IntG.nu32 (by omega) ?_ | refine IntG.nu64 (by omega) ?_ | refine IntG.wr' rfl ?_ | refine Chk.mk (by omega) ?_ | (refine BrG.id ?_; first | with_reducible refine BrG.t ?_ | with_reducible refine BrG.f ?_ | with_reducible refine BrG.notG ?_ | with_reducible refine BrG.nn ?_ | with_reducible refine BrG.ns ?_ | refine BrG.pos (by omega) ?_ | refine BrG.neg (by omega) ?_ | with_reducible refine BrG.pos rfl ?_ | refine BrG.pos (by assumption) ?_ | refine BrG.neg (by assumption) ?_ | refine BrG.pos (by decide) ?_ | refine BrG.neg (by decide) ?_) | refine Chk.mk (ptr_ok tblOk rfl rfl) ?_ | refine NilG.mk (fun _ => by kernel_rfl) ?_ | refine Chk.mk (by decide) ?_ | refine hS.ld rfl ?_ | refine hS.ldn rfl ?_ | (refine hS.st rfl rfl ?_; intro _ hS))
      rw [e1, hcc]
      repeat (first | refine SemW.run tblOk ?_ | refine IntG.nw (by omega) ?_ | refine IntG.nu8 (by omega) ?_ | refine IntG.nu32 (by omega) ?_ | refine IntG.nu64 (by omega) ?_ | refine IntG.wr' rfl ?_ | refine Chk.mk (by omega) ?_ | (refine BrG.id ?_; first | with_reducible refine BrG.t ?_ | with_reducible refine BrG.f ?_ | with_reducible refine BrG.notG ?_ | with_reducible refine BrG.nn ?_ | with_reducible refine BrG.ns ?_ | refine BrG.pos (by omega) ?_ | refine BrG.neg (by omega) ?_ | with_reducible refine BrG.pos rfl ?_ | refine BrG.pos (by assumption) ?_ | refine BrG.neg (by assumption) ?_ | refine BrG.pos (by decide) ?_ | refine BrG.neg (by decide) ?_) | refine Chk.mk (ptr_ok tblOk rfl rfl) ?_ | refine NilG.mk (fun _ => by kernel_rfl) ?_ | refine Chk.mk (by decide) ?_ | refine hS.ld rfl ?_ | refine hS.ldn rfl ?_ | (refine hS.st rfl rfl ?_; intro _ hS))
      refine hS.al ?_
      intro b2 w3 _ hS
      repeat (first | refine SemW.run tblOk ?_ | refine IntG.nw (by omega) ?_ | refine IntG.nu8 (by omega) ?_ | refine IntG.nu32 (by omega) ?_ | refine IntG.nu64 (by omega) ?_ | refine IntG.wr' rfl ?_ | refine Chk.mk (by omega) ?_ | (refine BrG.id ?_; first | with_reducible refine BrG.t ?_ | with_reducible refine BrG.f ?_ | with_reducible refine BrG.notG ?_ | with_reducible refine BrG.nn ?_ | with_reducible refine BrG.ns ?_ | refine BrG.pos (by omega) ?_ | refine BrG.neg (by omega) ?_ | with_reducible refine BrG.pos rfl ?_ | refine BrG.pos (by assumption) ?_ | refine BrG.neg (by assumption) ?_ | refine BrG.pos (by decide) ?_ | refine BrG.neg (by decide) ?_) | refine Chk.mk (ptr_ok tblOk rfl rfl) ?_ | refine NilG.mk (fun _ => by kernel_rfl) ?_ | refine Chk.mk (by decide) ?_ | refine hS.ld rfl ?_ | refine hS.ldn rfl ?_ | (refine hS.st rfl rfl ?_; intro _ hS))
      refine neqHeld tblOk rfl rfl ?_
      repeat (first | refine SemW.run tblOk ?_ | refine IntG.nw (by omega) ?_ | refine IntG.nu8 (by omega) ?_ | refine IntG.nu32 (by omega) ?_ | refine IntG.nu64 (by omega) ?_ | refine IntG.wr' rfl ?_ | refine Chk.mk (by omega) ?_ | (refine BrG.id ?_; first | with_reducible refine BrG.t ?_ | with_reducible refine BrG.f ?_ | with_reducible refine BrG.notG ?_ | with_reducible refine BrG.nn ?_ | with_reducible refine BrG.ns ?_ | refine BrG.pos (by omega) ?_ | refine BrG.neg (by omega) ?_ | with_reducible refine BrG.pos rfl ?_ | refine BrG.pos (by assumption) ?_ | refine BrG.neg (by assumption) ?_ | refine BrG.pos (by decide) ?_ | refine BrG.neg (by decide) ?_) | refine Chk.mk (ptr_ok tblOk rfl rfl) ?_ | refine NilG.mk (fun _ => by kernel_rfl) ?_ | refine Chk.mk (by decide) ?_ | refine hS.ld rfl ?_ | refine hS.ldn rfl ?_ | (refine hS.st rfl rfl ?_; intro _ hS))
      exact ⟨rfl, hS.nil⟩
end Go.Proofs.YthpmmfapolcaiaaDoor

/- Plain: replies, their bytes, how they are read. -/
namespace Go.Proofs.YthpmmfapolcaiaaDoor
open Go Go.Eng Go.Proofs

structure ReplyM where
  code : Int
  ids : List Int
  n0 : Int
  n1 : Int
  n2 : Int
  n3 : Int
  over : Bool
  pax : PaxM
  text : Bytes
structure ReplyM.ok (a : ReplyM) : Prop where
  code : i64ok a.code
  ids : ∀ z ∈ a.ids, i64ok z
  n0 : i64ok a.n0
  n1 : i64ok a.n1
  n2 : i64ok a.n2
  n3 : i64ok a.n3
  pax : a.pax.ok
/-- Ints of a passenger, in the order of its cells' bytes. -/
def paxI (p : PaxM) : List Int := [p.id, p.flight, p.cab, p.cls, p.status, p.tick, p.pass]
def replyB (a : ReplyM) : Bytes := intsB [a.code] ++ (numB a.ids.length ++ (intsB a.ids ++ (intsB [a.n0, a.n1, a.n2, a.n3] ++ (numB (marksN [a.over]) ++ (intsB (paxI a.pax) ++ (numB (marksN [a.pax.fit, a.pax.infant, a.pax.vol, a.pax.stb]) ++ (textB (seatB a.pax.num a.pax.c) ++ textB a.text)))))))
/-- Has the seat a text that says it? -/
def seatGood (n : Int) (c : Nat) : Bool := decide (seatB n c ≠ [45])
/-- What a seat's text says: nothing is the zero seat. -/
def seatS (x : Bytes) : Option (Int × Nat) := if x = [] then some (0, 0) else parseB x
theorem seatS_of {n : Int} {c : Nat} (h : seatGood n c = true) : seatS (seatB n c) = some (n, c) := by
  unfold seatGood at h
  have h := of_decide_eq_true h
  unfold seatB at h ⊢
  by_cases hz : n = 0 ∧ c = 0
  · rw [if_pos hz, hz.1, hz.2]; rfl
  · rw [if_neg hz] at h ⊢
    have hs : seatOk n c = true := by
      cases hs : seatOk n c with
      | true => rfl
      | false => exact absurd ((labelB_dash n c).2 hs) h
    have hl := (labelB_len n c).1
    unfold seatS
    rw [if_neg (by intro e; rw [e] at hl; exact absurd hl (by decide)), parseB_label hs]
theorem seatS_some {x : Bytes} {n : Int} {c : Nat} (h : seatS x = some (n, c)) : seatB n c = x ∧ seatGood n c = true ∧ i64ok n ∧ c < 256 := by
  unfold seatS at h
  split at h
  · next hx =>
    simp only [Option.some.injEq, Prod.mk.injEq] at h
    obtain ⟨rfl, rfl⟩ := h
    exact ⟨by rw [hx]; rfl, by decide, ok0, by omega⟩
  · next hx =>
    obtain ⟨h1, h2⟩ := parseB_some h
    obtain ⟨a1, a2, a3, a4⟩ := seatOk_iff.1 h1
    have e : seatB n c = x := by unfold seatB; rw [if_neg (by rintro ⟨h, -⟩; omega), h2]
    refine ⟨e, ?_, ⟨by omega, by omega⟩, by omega⟩
    unfold seatGood
    rw [e]
    refine decide_eq_true fun hd => ?_
    rw [← h2, labelB_dash, h1] at hd
    cases hd
/-- What is read of a payload: the reply without its seat, the seat's text. -/
def wReply (s : RB) : (ReplyM × Bytes) × RB :=
  tk (wInts 1 s) fun a s => tk (wNum s.t.length s) fun n s => tk (wInts n s) fun ids s => tk (wInts 4 s) fun x s => tk (wMarks 1 s) fun o s =>
  tk (wInts 7 s) fun p s => tk (wMarks 4 s) fun m s => tk (wText s) fun seat s => tk (wText s) fun t s =>
  ((⟨a.getD 0 0, ids, x.getD 0 0, x.getD 1 0, x.getD 2 0, x.getD 3 0, o.getD 0 false,
    ⟨p.getD 0 0, p.getD 1 0, p.getD 2 0, m.getD 0 false, m.getD 1 false, m.getD 2 false, m.getD 3 false, p.getD 3 0, p.getD 4 0, p.getD 5 0, p.getD 6 0, 0, 0⟩, t⟩, seat), s)
def withSeat (a : ReplyM) (n : Int) (c : Nat) : ReplyM := { a with pax := { a.pax with num := n, c := c } }
/-- The reply of a payload. -/
def replyS (t : Bytes) : Option ReplyM := tk (wReply ⟨t, false⟩) fun y s => match seatS y.2 with
  | none => none
  | some z => if s.bad = true ∨ s.t ≠ [] then none else some (withSeat y.1 z.1 z.2)
theorem all7 {a b c d e f g : Int} (ha : i64ok a) (hb : i64ok b) (hc : i64ok c) (hd : i64ok d) (he : i64ok e) (hf : i64ok f) (hg : i64ok g) : [a, b, c, d, e, f, g].length = 7 ∧ ∀ z ∈ [a, b, c, d, e, f, g], i64ok z := ⟨rfl, by
  intro z hz
  rcases List.mem_cons.1 hz with rfl | hz
  · exact ha
  rcases List.mem_cons.1 hz with rfl | hz
  · exact hb
  rcases List.mem_cons.1 hz with rfl | hz
  · exact hc
  · exact (all4 hd he hf hg).2 z hz⟩
theorem paxOk_of {l : List Int} {m : List Bool} (hl : ∀ z ∈ l, i64ok z) {n : Int} {c : Nat} (hn : i64ok n) (hc : c < 256) : PaxM.ok ⟨l.getD 0 0, l.getD 1 0, l.getD 2 0, m.getD 0 false, m.getD 1 false, m.getD 2 false, m.getD 3 false, l.getD 3 0, l.getD 4 0, l.getD 5 0, l.getD 6 0, n, c⟩ :=
  ⟨getD_ok hl 0, getD_ok hl 1, getD_ok hl 2, getD_ok hl 3, getD_ok hl 4, getD_ok hl 5, getD_ok hl 6, hn, hc⟩
/-- What a reading of a reply's fields answers. -/
structure ReplyR (s : RB) (y : (ReplyM × Bytes) × RB) : Prop where
  bad : s.bad = false
  t : ∀ n c, seatB n c = y.1.2 → s.t = replyB (withSeat y.1.1 n c) ++ y.2.t
  ok : ∀ n c, i64ok n → c < 256 → (withSeat y.1.1 n c).ok
theorem intsB_min (l : List Int) : l.length ≤ (intsB l).length := by
  induction l with
  | nil => exact Nat.zero_le _
  | cons z l ih =>
    have := numB_pos (zig z)
    simp only [intsB, List.map_cons, List.flatten_cons, List.length_append, List.length_cons, intB] at ih ⊢
    omega
theorem wReply_good {s : RB} (hs : s.t.length ≤ 70368744177664) (h : (wReply s).2.bad = false) : ReplyR s (wReply s) := by
  have hle : (wInts 1 s).2.t.length ≤ s.t.length := by
    show (intO s.t).2.2.length ≤ _
    exact intO_len s.t
  unfold wReply tk at h ⊢
  simp only at h ⊢
  obtain ⟨h9, e9, o9⟩ := wText_codec.good _ h
  obtain ⟨h8, e8, o8⟩ := wText_codec.good _ h9
  obtain ⟨h7, e7, o7⟩ := (wMarks_codec 4 (by omega)).good _ h8
  obtain ⟨h6, e6, o6⟩ := (wInts_codec 7).good _ h7
  obtain ⟨h5, e5, o5⟩ := (wMarks_codec 1 (by omega)).good _ h6
  obtain ⟨h4, e4, o4⟩ := (wInts_codec 4).good _ h5
  obtain ⟨h3, e3, o3⟩ := (wInts_codec _).good _ h4
  obtain ⟨h2, e2, o2⟩ := (wNum_codec _ (by omega)).good _ h3
  obtain ⟨h1, e1, o1⟩ := (wInts_codec 1).good _ h2
  refine ⟨h1, fun n c hn => ?_, fun n c hn hc => ?_⟩
  · simp only at hn
    unfold replyB withSeat paxI
    simp only
    rw [← lst1 0 o1.1, ← lst4 0 o4.1, ← lst1 false o5, ← lst7 0 o6.1, ← lst4 false o7, hn, o3.1]
    conv => lhs; rw [e1, e2, e3, e4, e5, e6, e7, e8, e9]
    simp only [List.append_assoc]
  · unfold withSeat
    simp only
    exact ⟨getD_ok o1.2 0, o3.2, getD_ok o4.2 0, getD_ok o4.2 1, getD_ok o4.2 2, getD_ok o4.2 3, paxOk_of o6.2 hn hc⟩
theorem wReply_app {a : ReplyM} (ha : a.ok) (hl : (replyB a).length ≤ 70368744177664) : wReply ⟨replyB a, false⟩ = ((withSeat a 0 0, seatB a.pax.num a.pax.c), ⟨[], false⟩) := by
  have hsl := seatB_len a.pax.num a.pax.c
  have hm := intsB_min a.ids
  unfold replyB at hl
  simp only [List.length_append] at hl
  have htx : (textB a.text).length = (numB a.text.length).length + a.text.length := by simp [textB]
  have e : replyB a = intsB [a.code] ++ (numB a.ids.length ++ (intsB a.ids ++ (intsB [a.n0, a.n1, a.n2, a.n3] ++ (numB (marksN [a.over]) ++ (intsB (paxI a.pax) ++ (numB (marksN [a.pax.fit, a.pax.infant, a.pax.vol, a.pax.stb]) ++ (textB (seatB a.pax.num a.pax.c) ++ (textB a.text ++ [])))))))) := by rw [List.append_nil]; rfl
  rw [e]
  have hp := ha.pax
  unfold wReply
  unfold tk
  rw [(wInts_codec 1).app _ _ (all1 ha.code)]
  simp only
  rw [(wNum_codec _ (by simp only [List.length_append, List.length_nil]; omega)).app _ _ (by simp only [List.length_append, List.length_nil]; omega)]
  simp only
  rw [(wInts_codec _).app _ _ ⟨rfl, ha.ids⟩]
  simp only
  rw [(wInts_codec 4).app _ _ (all4 ha.n0 ha.n1 ha.n2 ha.n3)]
  simp only
  rw [(wMarks_codec 1 (by omega)).app _ _ rfl]
  simp only
  rw [(wInts_codec 7).app _ _ (show (paxI a.pax).length = 7 ∧ _ from all7 hp.id hp.flight hp.cab hp.cls hp.status hp.tick hp.pass)]
  simp only
  rw [(wMarks_codec 4 (by omega)).app _ _ rfl]
  simp only
  rw [wText_codec.app _ _ (by omega)]
  simp only
  rw [wText_codec.app _ _ (by omega)]
  rfl
def RightR (a : ReplyM) : Prop := seatGood a.pax.num a.pax.c = true
theorem withSeat_self (a : ReplyM) : withSeat (withSeat a 0 0) a.pax.num a.pax.c = a := rfl
theorem replyS_iff {t : Bytes} (ht : t.length ≤ 70368744177664) {a : ReplyM} : replyS t = some a ↔ t = replyB a ∧ a.ok ∧ RightR a := by
  constructor
  · intro h
    unfold replyS tk at h
    simp only at h
    split at h
    · cases h
    · next z hz =>
      split at h
      · cases h
      · next h3 =>
        obtain ⟨h3, h4⟩ := not_or.1 h3
        have h3 := Bool.eq_false_iff.2 h3
        have h4 := Decidable.not_not.1 h4
        have hR := wReply_good ht h3
        obtain ⟨s1, s2, s3, s4⟩ := seatS_some hz
        simp only [Option.some.injEq] at h
        subst h
        refine ⟨?_, hR.ok _ _ s3 s4, s2⟩
        have := hR.t _ _ s1
        rw [h4, List.append_nil] at this
        exact this
  · rintro ⟨rfl, h1, h2⟩
    unfold replyS
    rw [wReply_app h1 ht]
    unfold tk
    simp only
    rw [seatS_of h2]
    simp [withSeat_self]
end Go.Proofs.YthpmmfapolcaiaaDoor

/- Package wire: a reply's fields, written. -/
namespace Go.Proofs.YthpmmfapolcaiaaDoor
open Go Go.Eng Go.Proofs
abbrev replyC (r : ReplyM) (a : Option Addr) (cap : Nat) : List Value := [.int .i64 r.code, .slice a r.ids.length cap, .int .i64 r.n0, .int .i64 r.n1, .int .i64 r.n2, .int .i64 r.n3, .bool r.over, .int .i64 r.pax.id, .int .i64 r.pax.flight, .int .i64 r.pax.cab, .bool r.pax.fit, .bool r.pax.infant, .bool r.pax.vol, .bool r.pax.stb, .int .i64 r.pax.cls, .int .i64 r.pax.status, .int .i64 r.pax.tick, .int .i64 r.pax.pass, .int .i64 r.pax.num, .int .u8 r.pax.c, Str r.text]
abbrev repO (r : ReplyM) (a : Option Addr) (cap : Nat) : Obj := .cells ⟨replyC r a cap⟩ T_api_Reply (0, 0)
set_option maxRecDepth 4000 in
set_option maxHeartbeats 8000000 in
theorem reply_wr {w : World} {pb : Nat} {L : Heap} (hW : PackW pb [] L) {ab sb : Nat} {r : ReplyM} {a : Option Addr} {cap : Nat} (hh : Holds ((ab, repO r a cap) :: L) w) (hsb : sb ∉ ab :: keys L ∧ w.cell? ⟨sb, 0, none⟩ = some (Str (seatB r.pax.num r.pax.c))) (hids : Arr w (ab :: keys L) a (r.ids.map intV)) (hok : r.ok) (hni : r.ids.length ≤ 16777216) (hnt : r.text.length ≤ 16777216) :
    Cl Tryd.prog f_wire_reply [.iface T_wire_writer (wrV pb), ptr ab, ptr sb] w fun _ w' => ∃ L', PackW pb (replyB r) L' ∧ St w (ab :: keys L) ((ab, repO r a cap) :: L') w' := by
  have hS : St w (ab :: keys L) ((ab, repO r a cap) :: L) w := St.enter hh
  have hp := hok.pax
  have hsl := seatB_len r.pax.num r.pax.c
  have hi1 := ints_len [r.code] (all1 hok.code).2
  have hi2 := ints_len r.ids hok.ids
  have hall := all4 hok.n0 hok.n1 hok.n2 hok.n3
  have hi3 := ints_len [r.n0, r.n1, r.n2, r.n3] hall.2
  have hpall := all7 hp.id hp.flight hp.cab hp.cls hp.status hp.tick hp.pass
  have hi4 := ints_len [r.pax.id, r.pax.flight, r.pax.cab, r.pax.cls, r.pax.status, r.pax.tick, r.pax.pass] hpall.2
  have hn1 := numB_len10 r.ids.length (by omega)
  have hn2 := numB_len10 (marksN [r.over]) (by have h3' : marksN [r.over] < 2 := marksN_lt [r.over]; omega)
  have hn3 := numB_len10 (marksN [r.pax.fit, r.pax.infant, r.pax.vol, r.pax.stb]) (by have := marks4_lt r.pax.fit r.pax.infant r.pax.vol r.pax.stb; omega)
  have hn4 := numB_len10 (seatB r.pax.num r.pax.c).length (by omega)
  simp only [List.length_cons, List.length_nil] at hi1 hi3 hi4
  obtain ⟨T0, hT⟩ : ∃ T0, T0 = ab :: keys L := ⟨_, rfl⟩
  rw [← hT] at hS hsb hids ⊢
  refine en_wire_reply rfl ?_
  repeat (first | refine SemW.run tblOk ?_ | refine IntG.nw (by omega) ?_ | refine IntG.nu8 (by omega) ?_ | refine IntG.nu32 (by omega) ?_ | refine IntG.nu64 (by omega) ?_ | refine IntG.wr' rfl ?_ | refine Chk.mk (by omega) ?_ | (refine BrG.id ?_; first | with_reducible refine BrG.t ?_ | with_reducible refine BrG.f ?_ | with_reducible refine BrG.notG ?_ | with_reducible refine BrG.nn ?_ | with_reducible refine BrG.ns ?_ | refine BrG.pos (by omega) ?_ | refine BrG.neg (by omega) ?_ | with_reducible refine BrG.pos rfl ?_ | refine BrG.pos (by assumption) ?_ | refine BrG.neg (by assumption) ?_ | refine BrG.pos (by decide) ?_ | refine BrG.neg (by decide) ?_) | refine Chk.mk (ptr_ok tblOk rfl rfl) ?_ | refine NilG.mk (fun _ => by kernel_rfl) ?_ | refine Chk.mk (by decide) ?_ | refine hS.ld rfl ?_ | refine hS.ldn rfl ?_ | (refine hS.st rfl rfl ?_; intro _ hS))
  refine hS.al ?_
  intro cv w1 _ hS
  repeat (first | refine SemW.run tblOk ?_ | refine IntG.nw (by omega) ?_ | refine IntG.nu8 (by omega) ?_ | refine IntG.nu32 (by omega) ?_ | refine IntG.nu64 (by omega) ?_ | refine IntG.wr' rfl ?_ | refine Chk.mk (by omega) ?_ | (refine BrG.id ?_; first | with_reducible refine BrG.t ?_ | with_reducible refine BrG.f ?_ | with_reducible refine BrG.notG ?_ | with_reducible refine BrG.nn ?_ | with_reducible refine BrG.ns ?_ | refine BrG.pos (by omega) ?_ | refine BrG.neg (by omega) ?_ | with_reducible refine BrG.pos rfl ?_ | refine BrG.pos (by assumption) ?_ | refine BrG.neg (by assumption) ?_ | refine BrG.pos (by decide) ?_ | refine BrG.neg (by decide) ?_) | refine Chk.mk (ptr_ok tblOk rfl rfl) ?_ | refine NilG.mk (fun _ => by kernel_rfl) ?_ | refine Chk.mk (by decide) ?_ | refine hS.ld rfl ?_ | refine hS.ldn rfl ?_ | (refine hS.st rfl rfl ?_; intro _ hS))
  refine hS.al ?_
  intro q w2 _ hS
  repeat (first | refine SemW.run tblOk ?_ | refine IntG.nw (by omega) ?_ | refine IntG.nu8 (by omega) ?_ | refine IntG.nu32 (by omega) ?_ | refine IntG.nu64 (by omega) ?_ | refine IntG.wr' rfl ?_ | refine Chk.mk (by omega) ?_ | (refine BrG.id ?_; first | with_reducible refine BrG.t ?_ | with_reducible refine BrG.f ?_ | with_reducible refine BrG.notG ?_ | with_reducible refine BrG.nn ?_ | with_reducible refine BrG.ns ?_ | refine BrG.pos (by omega) ?_ | refine BrG.neg (by omega) ?_ | with_reducible refine BrG.pos rfl ?_ | refine BrG.pos (by assumption) ?_ | refine BrG.neg (by assumption) ?_ | refine BrG.pos (by decide) ?_ | refine BrG.neg (by decide) ?_) | refine Chk.mk (ptr_ok tblOk rfl rfl) ?_ | refine NilG.mk (fun _ => by kernel_rfl) ?_ | refine Chk.mk (by decide) ?_ | refine hS.ld rfl ?_ | refine hS.ldn rfl ?_ | (refine hS.st rfl rfl ?_; intro _ hS))
  have hS : St w T0 ((q, .cells ⟨[ptr cv]⟩ T_Ptr_int (0, 0)) :: (cv, .cells ⟨[.int .i64 r.code]⟩ T_int (0, 0)) :: (ab, repO r a cap) :: L) w2 := hS
  refine InvG.mk ⟨f_wire_writer_int, wrV pb, by kernel_rfl, ?_⟩
  refine Cl.mono (wint_spec hW (hS.part (L := L)) (ps := [(cv, 0)]) (zs := [r.code]) (hS.arr (b := q) (nodup_chunk hS)) rfl (ptrsAt_cons ⟨nodup_chunk (L := L) (hS.sub (List.sublist_cons_self _ _)), hS.cell (b := cv) rfl⟩ ptrsAt_nil) (all1 hok.code).2 (by simp)) ?_
  rintro _ w4 ⟨L1, hW, hS'⟩
  have hS := (hS.call (L := L) hS').sub (List.sublist_cons_self _ _)
  rw [List.nil_append] at hW
  repeat (first | refine SemW.run tblOk ?_ | refine IntG.nw (by omega) ?_ | refine IntG.nu8 (by omega) ?_ | refine IntG.nu32 (by omega) ?_ | refine IntG.nu64 (by omega) ?_ | refine IntG.wr' rfl ?_ | refine Chk.mk (by omega) ?_ | (refine BrG.id ?_; first | with_reducible refine BrG.t ?_ | with_reducible refine BrG.f ?_ | with_reducible refine BrG.notG ?_ | with_reducible refine BrG.nn ?_ | with_reducible refine BrG.ns ?_ | refine BrG.pos (by omega) ?_ | refine BrG.neg (by omega) ?_ | with_reducible refine BrG.pos rfl ?_ | refine BrG.pos (by assumption) ?_ | refine BrG.neg (by assumption) ?_ | refine BrG.pos (by decide) ?_ | refine BrG.neg (by decide) ?_) | refine Chk.mk (ptr_ok tblOk rfl rfl) ?_ | refine NilG.mk (fun _ => by kernel_rfl) ?_ | refine Chk.mk (by decide) ?_ | refine hS.ld rfl ?_ | refine hS.ldn rfl ?_ | (refine hS.st rfl rfl ?_; intro _ hS))
  have hS := hS.sub (List.sublist_cons_self _ _)
  have hS : St w T0 ((ab, repO r a cap) :: L1) _ := hS
  refine SemW.draw tblOk mixed (fun w' => St w T0 ((ab, repO r a cap) :: L1) w') [9, 10] [0, 1, 2, 3, 4, 5, 6, 7, 8, 9, 10] (by kernel_rfl) hS.drew ?_
  have hS := hS.drew
  repeat (first | refine SemW.run tblOk ?_ | refine IntG.nw (by omega) ?_ | refine IntG.nu8 (by omega) ?_ | refine IntG.nu32 (by omega) ?_ | refine IntG.nu64 (by omega) ?_ | refine IntG.wr' rfl ?_ | refine Chk.mk (by omega) ?_ | (refine BrG.id ?_; first | with_reducible refine BrG.t ?_ | with_reducible refine BrG.f ?_ | with_reducible refine BrG.notG ?_ | with_reducible refine BrG.nn ?_ | with_reducible refine BrG.ns ?_ | refine BrG.pos (by omega) ?_ | refine BrG.neg (by omega) ?_ | with_reducible refine BrG.pos rfl ?_ | refine BrG.pos (by assumption) ?_ | refine BrG.neg (by assumption) ?_ | refine BrG.pos (by decide) ?_ | refine BrG.neg (by decide) ?_) | refine Chk.mk (ptr_ok tblOk rfl rfl) ?_ | refine NilG.mk (fun _ => by kernel_rfl) ?_ | refine Chk.mk (by decide) ?_ | refine hS.ldC rfl ?_ | refine hS.ldnC rfl ?_)
  refine InvG.mk ⟨f_wire_writer_count, wrV pb, by kernel_rfl, ?_⟩
  refine Cl.mono (wcount_spec hW (hS.part (L := L1)) (n := r.ids.length) (by omega) (by omega)) ?_
  rintro _ w5 ⟨rfl, L2, hW, hS'⟩
  have hS := hS.call (L := L1) hS'
  repeat (first | refine SemW.run tblOk ?_ | refine IntG.nw (by omega) ?_ | refine IntG.nu8 (by omega) ?_ | refine IntG.nu32 (by omega) ?_ | refine IntG.nu64 (by omega) ?_ | refine IntG.wr' rfl ?_ | refine Chk.mk (by omega) ?_ | (refine BrG.id ?_; first | with_reducible refine BrG.t ?_ | with_reducible refine BrG.f ?_ | with_reducible refine BrG.notG ?_ | with_reducible refine BrG.nn ?_ | with_reducible refine BrG.ns ?_ | refine BrG.pos (by omega) ?_ | refine BrG.neg (by omega) ?_ | with_reducible refine BrG.pos rfl ?_ | refine BrG.pos (by assumption) ?_ | refine BrG.neg (by assumption) ?_ | refine BrG.pos (by decide) ?_ | refine BrG.neg (by decide) ?_) | refine Chk.mk (ptr_ok tblOk rfl rfl) ?_ | refine NilG.mk (fun _ => by kernel_rfl) ?_ | refine Chk.mk (by decide) ?_)
  refine StopW.join (fun _ : Unit => [(0, .iface T_wire_writer (wrV pb)), (1, ptr ab), (2, ptr sb)])
    (fun _ w' => ∃ L', PackW pb (intsB [r.code] ++ numB r.ids.length ++ intsB r.ids) L' ∧ St w T0 ((ab, repO r a cap) :: L') w') ?_ ?_
  · refine SemW.loop (fun k : Nat => [(0, .iface T_wire_writer (wrV pb)), (1, ptr ab), (2, ptr sb), (32, .int .i64 r.ids.length), (33, .int .i64 k)])
      (fun k w' => k ≤ r.ids.length ∧ ∃ L', PackW pb (intsB [r.code] ++ numB r.ids.length ++ intsB (r.ids.take k)) L' ∧ St w T0 ((ab, repO r a cap) :: L') w') (fun k => r.ids.length - k) 0
      ⟨rfl, rfl, rfl, rfl, rfl, trivial⟩ ⟨Nat.zero_le _, L2, by simpa [intsB] using hW, hS⟩ ?_
    clear hS hW hS'
    rintro k w6 ⟨hk, L3, hW, hS⟩
    have hil := ints_len (r.ids.take k) (fun z hz => hok.ids z (List.mem_of_mem_take hz))
    rw [List.length_take] at hil
    by_cases hkl : k < r.ids.length
    · obtain ⟨g, off, rfl, hgT, hgc⟩ := hids.get (j := k) (by simp; omega)
      simp only [List.getElem_map] at hgc
      have hz := hok.ids r.ids[k] (List.getElem_mem hkl)
      have hsucc := ints_succ r.ids k hkl
      generalize r.ids[k] = z at hgc hz hsucc
      repeat (first | refine SemW.run tblOk ?_ | refine IntG.nw (by omega) ?_ | refine IntG.nu8 (by omega) ?_ | refine IntG.nu32 (by omega) ?_ | refine IntG.nu64 (by omega) ?_ | refine IntG.wr' rfl ?_ | refine Chk.mk (by omega) ?_ | (refine BrG.id ?_; first | with_reducible refine BrG.t ?_ | with_reducible refine BrG.f ?_ | with_reducible refine BrG.notG ?_ | with_reducible refine BrG.nn ?_ | with_reducible refine BrG.ns ?_ | refine BrG.pos (by omega) ?_ | refine BrG.neg (by omega) ?_ | with_reducible refine BrG.pos rfl ?_ | refine BrG.pos (by assumption) ?_ | refine BrG.neg (by assumption) ?_ | refine BrG.pos (by decide) ?_ | refine BrG.neg (by decide) ?_) | refine Chk.mk (ptr_ok tblOk rfl rfl) ?_ | refine NilG.mk (fun _ => by kernel_rfl) ?_ | refine Chk.mk (by decide) ?_ | refine hS.ld rfl ?_ | refine hS.ldn rfl ?_ | (refine hS.st rfl rfl ?_; intro _ hS))
      have hS : St w T0 ((ab, repO r (some ⟨g, off, none⟩) cap) :: L3) w6 := hS
      refine SemW.draw tblOk mixed (fun w' => St w T0 ((ab, repO r (some ⟨g, off, none⟩) cap) :: L3) w') [11] [0, 1, 2, 3, 4, 5, 6, 8, 9, 10, 7, 11] (by kernel_rfl) hS.drew ?_
      have hS := hS.drew
      repeat (first | refine SemW.run tblOk ?_ | refine IntG.nw (by omega) ?_ | refine IntG.nu8 (by omega) ?_ | refine IntG.nu32 (by omega) ?_ | refine IntG.nu64 (by omega) ?_ | refine IntG.wr' rfl ?_ | refine Chk.mk (by omega) ?_ | (refine BrG.id ?_; first | with_reducible refine BrG.t ?_ | with_reducible refine BrG.f ?_ | with_reducible refine BrG.notG ?_ | with_reducible refine BrG.nn ?_ | with_reducible refine BrG.ns ?_ | refine BrG.pos (by omega) ?_ | refine BrG.neg (by omega) ?_ | with_reducible refine BrG.pos rfl ?_ | refine BrG.pos (by assumption) ?_ | refine BrG.neg (by assumption) ?_ | refine BrG.pos (by decide) ?_ | refine BrG.neg (by decide) ?_) | refine Chk.mk (ptr_ok tblOk rfl rfl) ?_ | refine NilG.mk (fun _ => by kernel_rfl) ?_ | refine Chk.mk (by decide) ?_ | refine hS.ldC rfl ?_ | refine hS.ldnC rfl ?_)
      refine hS.al ?_
      intro q w3 _ hS
      refine Chk.mk (hS.sub (List.sublist_cons_self _ _)) ?_
      repeat (first | refine SemW.run tblOk ?_ | refine IntG.nw (by omega) ?_ | refine IntG.nu8 (by omega) ?_ | refine IntG.nu32 (by omega) ?_ | refine IntG.nu64 (by omega) ?_ | refine IntG.wr' rfl ?_ | refine Chk.mk (by omega) ?_ | (refine BrG.id ?_; first | with_reducible refine BrG.t ?_ | with_reducible refine BrG.f ?_ | with_reducible refine BrG.notG ?_ | with_reducible refine BrG.nn ?_ | with_reducible refine BrG.ns ?_ | refine BrG.pos (by omega) ?_ | refine BrG.neg (by omega) ?_ | with_reducible refine BrG.pos rfl ?_ | refine BrG.pos (by assumption) ?_ | refine BrG.neg (by assumption) ?_ | refine BrG.pos (by decide) ?_ | refine BrG.neg (by decide) ?_) | refine Chk.mk (ptr_ok tblOk rfl rfl) ?_ | refine NilG.mk (fun _ => by kernel_rfl) ?_ | refine Chk.mk (by decide) ?_ | refine hS.ldC rfl ?_ | refine hS.ldnC rfl ?_)
      have hgc : w.cell? ⟨g, off + k * 1, none⟩ = some (intV z) := by rw [Nat.mul_one]; exact hgc
      have hcell := hS.cellNew (L := L3) hgT hgc
      refine InvG.mk ⟨f_wire_writer_int, wrV pb, by kernel_rfl, ?_⟩
      refine Cl.mono (wint_spec hW (hS.part (L := L3)) (ps := [(g, off + k * 1)]) (zs := [z]) (hS.arr (b := q) (nodup_chunk hS)) rfl (ptrsAt_cons hcell ptrsAt_nil) (all1 hz).2 (by simp only [List.length_append, List.length_cons, List.length_nil]; omega)) ?_
      rintro _ w4 ⟨L4, hW, hS'⟩
      have hS := (hS.call (L := L3) hS').sub (List.sublist_cons_self _ _)
      repeat (first | refine SemW.run tblOk ?_ | refine IntG.nw (by omega) ?_ | refine IntG.nu8 (by omega) ?_ | refine IntG.nu32 (by omega) ?_ | refine IntG.nu64 (by omega) ?_ | refine IntG.wr' rfl ?_ | refine Chk.mk (by omega) ?_ | (refine BrG.id ?_; first | with_reducible refine BrG.t ?_ | with_reducible refine BrG.f ?_ | with_reducible refine BrG.notG ?_ | with_reducible refine BrG.nn ?_ | with_reducible refine BrG.ns ?_ | refine BrG.pos (by omega) ?_ | refine BrG.neg (by omega) ?_ | with_reducible refine BrG.pos rfl ?_ | refine BrG.pos (by assumption) ?_ | refine BrG.neg (by assumption) ?_ | refine BrG.pos (by decide) ?_ | refine BrG.neg (by decide) ?_) | refine Chk.mk (ptr_ok tblOk rfl rfl) ?_ | refine NilG.mk (fun _ => by kernel_rfl) ?_ | refine Chk.mk (by decide) ?_)
      exact ⟨k + 1, ⟨rfl, rfl, rfl, rfl, rfl, trivial⟩, ⟨by omega, L4, by rw [hsucc]; simpa [intsB] using hW, hS⟩, by omega⟩
    · have hke : k = r.ids.length := by omega
      subst hke
      rw [List.take_length] at hW
      repeat (first | refine SemW.run tblOk ?_ | refine IntG.nw (by omega) ?_ | refine IntG.nu8 (by omega) ?_ | refine IntG.nu32 (by omega) ?_ | refine IntG.nu64 (by omega) ?_ | refine IntG.wr' rfl ?_ | refine Chk.mk (by omega) ?_ | (refine BrG.id ?_; first | with_reducible refine BrG.t ?_ | with_reducible refine BrG.f ?_ | with_reducible refine BrG.notG ?_ | with_reducible refine BrG.nn ?_ | with_reducible refine BrG.ns ?_ | refine BrG.pos (by omega) ?_ | refine BrG.neg (by omega) ?_ | with_reducible refine BrG.pos rfl ?_ | refine BrG.pos (by assumption) ?_ | refine BrG.neg (by assumption) ?_ | refine BrG.pos (by decide) ?_ | refine BrG.neg (by decide) ?_) | refine Chk.mk (ptr_ok tblOk rfl rfl) ?_ | refine NilG.mk (fun _ => by kernel_rfl) ?_ | refine Chk.mk (by decide) ?_)
      exact ⟨rfl, (), ⟨rfl, rfl, rfl, trivial⟩, L3, hW, hS⟩
  clear hS hW hS'
  rintro - w7 ⟨L2, hW, hS⟩
  repeat (first | refine SemW.run tblOk ?_ | refine IntG.nw (by omega) ?_ | refine IntG.nu8 (by omega) ?_ | refine IntG.nu32 (by omega) ?_ | refine IntG.nu64 (by omega) ?_ | refine IntG.wr' rfl ?_ | refine Chk.mk (by omega) ?_ | (refine BrG.id ?_; first | with_reducible refine BrG.t ?_ | with_reducible refine BrG.f ?_ | with_reducible refine BrG.notG ?_ | with_reducible refine BrG.nn ?_ | with_reducible refine BrG.ns ?_ | refine BrG.pos (by omega) ?_ | refine BrG.neg (by omega) ?_ | with_reducible refine BrG.pos rfl ?_ | refine BrG.pos (by assumption) ?_ | refine BrG.neg (by assumption) ?_ | refine BrG.pos (by decide) ?_ | refine BrG.neg (by decide) ?_) | refine Chk.mk (ptr_ok tblOk rfl rfl) ?_ | refine NilG.mk (fun _ => by kernel_rfl) ?_ | refine Chk.mk (by decide) ?_)
  refine StopW.join (fun _ : Unit => [(0, .iface T_wire_writer (wrV pb)), (1, ptr ab), (2, ptr sb)])
    (fun _ w' => ∃ L', PackW pb (intsB [r.code] ++ numB r.ids.length ++ intsB r.ids ++ intsB [r.n0, r.n1, r.n2, r.n3]) L' ∧ St w T0 ((ab, repO r a cap) :: L') w') ?_ ?_
  · refine SemW.loop (fun k : Nat => [(0, .iface T_wire_writer (wrV pb)), (1, ptr ab), (2, ptr sb), (65, .int .i64 k)])
      (fun k w' => k ≤ 4 ∧ ∃ L', PackW pb (intsB [r.code] ++ numB r.ids.length ++ intsB r.ids ++ intsB ([r.n0, r.n1, r.n2, r.n3].take k)) L' ∧ St w T0 ((ab, repO r a cap) :: L') w') (fun k => 4 - k) 0
      ⟨rfl, rfl, rfl, rfl, trivial⟩ ⟨Nat.zero_le _, L2, by simpa [intsB] using hW, hS⟩ ?_
    clear hS hW
    rintro k w6 ⟨hk, L3, hW, hS⟩
    have hil := ints_len ([r.n0, r.n1, r.n2, r.n3].take k) (fun z hz => hall.2 z (List.mem_of_mem_take hz))
    rw [List.length_take] at hil
    by_cases hk4 : k < 4
    · have hsucc := ints_succ [r.n0, r.n1, r.n2, r.n3] k hk4
      have hz := hall.2 [r.n0, r.n1, r.n2, r.n3][k] (List.getElem_mem hk4)
      have hx : (replyC r a cap)[2 + k * 1]? = some (intV [r.n0, r.n1, r.n2, r.n3][k]) := by
        match k, hk4 with
        | 0, _ => rfl
        | 1, _ => rfl
        | 2, _ => rfl
        | 3, _ => rfl
      generalize [r.n0, r.n1, r.n2, r.n3][k] = z at hsucc hz hx
      repeat (first | refine SemW.run tblOk ?_ | refine IntG.nw (by omega) ?_ | refine IntG.nu8 (by omega) ?_ | refine IntG.nu32 (by omega) ?_ | refine IntG.nu64 (by omega) ?_ | refine IntG.wr' rfl ?_ | refine Chk.mk (by omega) ?_ | (refine BrG.id ?_; first | with_reducible refine BrG.t ?_ | with_reducible refine BrG.f ?_ | with_reducible refine BrG.notG ?_ | with_reducible refine BrG.nn ?_ | with_reducible refine BrG.ns ?_ | refine BrG.pos (by omega) ?_ | refine BrG.neg (by omega) ?_ | with_reducible refine BrG.pos rfl ?_ | refine BrG.pos (by assumption) ?_ | refine BrG.neg (by assumption) ?_ | refine BrG.pos (by decide) ?_ | refine BrG.neg (by decide) ?_) | refine Chk.mk (ptr_ok tblOk rfl rfl) ?_ | refine NilG.mk (fun _ => by kernel_rfl) ?_ | refine Chk.mk (by decide) ?_)
      refine SemW.draw tblOk mixed (fun w' => St w T0 ((ab, repO r a cap) :: L3) w') [10] [0, 1, 2, 3, 4, 5, 7, 8, 9, 6, 10] (by kernel_rfl) hS.drew ?_
      have hS := hS.drew
      repeat (first | refine SemW.run tblOk ?_ | refine IntG.nw (by omega) ?_ | refine IntG.nu8 (by omega) ?_ | refine IntG.nu32 (by omega) ?_ | refine IntG.nu64 (by omega) ?_ | refine IntG.wr' rfl ?_ | refine Chk.mk (by omega) ?_ | (refine BrG.id ?_; first | with_reducible refine BrG.t ?_ | with_reducible refine BrG.f ?_ | with_reducible refine BrG.notG ?_ | with_reducible refine BrG.nn ?_ | with_reducible refine BrG.ns ?_ | refine BrG.pos (by omega) ?_ | refine BrG.neg (by omega) ?_ | with_reducible refine BrG.pos rfl ?_ | refine BrG.pos (by assumption) ?_ | refine BrG.neg (by assumption) ?_ | refine BrG.pos (by decide) ?_ | refine BrG.neg (by decide) ?_) | refine Chk.mk (ptr_ok tblOk rfl rfl) ?_ | refine NilG.mk (fun _ => by kernel_rfl) ?_ | refine Chk.mk (by decide) ?_ | refine hS.ldC rfl ?_ | refine hS.ldnC rfl ?_)
      refine hS.al ?_
      intro q w3 _ hS
      refine Chk.mk (hS.sub (List.sublist_cons_self _ _)) ?_
      repeat (first | refine SemW.run tblOk ?_ | refine IntG.nw (by omega) ?_ | refine IntG.nu8 (by omega) ?_ | refine IntG.nu32 (by omega) ?_ | refine IntG.nu64 (by omega) ?_ | refine IntG.wr' rfl ?_ | refine Chk.mk (by omega) ?_ | (refine BrG.id ?_; first | with_reducible refine BrG.t ?_ | with_reducible refine BrG.f ?_ | with_reducible refine BrG.notG ?_ | with_reducible refine BrG.nn ?_ | with_reducible refine BrG.ns ?_ | refine BrG.pos (by omega) ?_ | refine BrG.neg (by omega) ?_ | with_reducible refine BrG.pos rfl ?_ | refine BrG.pos (by assumption) ?_ | refine BrG.neg (by assumption) ?_ | refine BrG.pos (by decide) ?_ | refine BrG.neg (by decide) ?_) | refine Chk.mk (ptr_ok tblOk rfl rfl) ?_ | refine NilG.mk (fun _ => by kernel_rfl) ?_ | refine Chk.mk (by decide) ?_ | refine hS.ldC rfl ?_ | refine hS.ldnC rfl ?_)
      have hcell : ∀ j v, (replyC r a cap)[j]? = some v → ab ∉ keys L3 ∧ w3.cell? ⟨ab, j, none⟩ = some v := fun j v h => ⟨nodup_chunk (L := L3) (hS.sub (List.sublist_cons_self _ _)), hS.cell (b := ab) h⟩
      refine InvG.mk ⟨f_wire_writer_int, wrV pb, by kernel_rfl, ?_⟩
      refine Cl.mono (wint_spec hW (hS.part (L := L3)) (ps := [(ab, 2 + k * 1)]) (zs := [z]) (hS.arr (b := q) (nodup_chunk hS)) rfl (ptrsAt_cons (hcell (2 + k * 1) _ hx) ptrsAt_nil) (all1 hz).2 (by simp only [List.length_append, List.length_cons, List.length_nil]; omega)) ?_
      rintro _ w4 ⟨L4, hW, hS'⟩
      have hS := (hS.call (L := L3) hS').sub (List.sublist_cons_self _ _)
      repeat (first | refine SemW.run tblOk ?_ | refine IntG.nw (by omega) ?_ | refine IntG.nu8 (by omega) ?_ | refine IntG.nu32 (by omega) ?_ | refine IntG.nu64 (by omega) ?_ | refine IntG.wr' rfl ?_ | refine Chk.mk (by omega) ?_ | (refine BrG.id ?_; first | with_reducible refine BrG.t ?_ | with_reducible refine BrG.f ?_ | with_reducible refine BrG.notG ?_ | with_reducible refine BrG.nn ?_ | with_reducible refine BrG.ns ?_ | refine BrG.pos (by omega) ?_ | refine BrG.neg (by omega) ?_ | with_reducible refine BrG.pos rfl ?_ | refine BrG.pos (by assumption) ?_ | refine BrG.neg (by assumption) ?_ | refine BrG.pos (by decide) ?_ | refine BrG.neg (by decide) ?_) | refine Chk.mk (ptr_ok tblOk rfl rfl) ?_ | refine NilG.mk (fun _ => by kernel_rfl) ?_ | refine Chk.mk (by decide) ?_)
      exact ⟨k + 1, ⟨rfl, rfl, rfl, rfl, trivial⟩, ⟨by omega, L4, by rw [hsucc]; simpa [intsB] using hW, hS⟩, by omega⟩
    · have hke : k = 4 := by omega
      subst hke
      repeat (first | refine SemW.run tblOk ?_ | refine IntG.nw (by omega) ?_ | refine IntG.nu8 (by omega) ?_ | refine IntG.nu32 (by omega) ?_ | refine IntG.nu64 (by omega) ?_ | refine IntG.wr' rfl ?_ | refine Chk.mk (by omega) ?_ | (refine BrG.id ?_; first | with_reducible refine BrG.t ?_ | with_reducible refine BrG.f ?_ | with_reducible refine BrG.notG ?_ | with_reducible refine BrG.nn ?_ | with_reducible refine BrG.ns ?_ | refine BrG.pos (by omega) ?_ | refine BrG.neg (by omega) ?_ | with_reducible refine BrG.pos rfl ?_ | refine BrG.pos (by assumption) ?_ | refine BrG.neg (by assumption) ?_ | refine BrG.pos (by decide) ?_ | refine BrG.neg (by decide) ?_) | refine Chk.mk (ptr_ok tblOk rfl rfl) ?_ | refine NilG.mk (fun _ => by kernel_rfl) ?_ | refine Chk.mk (by decide) ?_)
      exact ⟨rfl, (), ⟨rfl, rfl, rfl, trivial⟩, L3, by simpa using hW, hS⟩
  clear hS hW
  rintro - w8 ⟨L2, hW, hS⟩
  repeat (first | refine SemW.run tblOk ?_ | refine IntG.nw (by omega) ?_ | refine IntG.nu8 (by omega) ?_ | refine IntG.nu32 (by omega) ?_ | refine IntG.nu64 (by omega) ?_ | refine IntG.wr' rfl ?_ | refine Chk.mk (by omega) ?_ | (refine BrG.id ?_; first | with_reducible refine BrG.t ?_ | with_reducible refine BrG.f ?_ | with_reducible refine BrG.notG ?_ | with_reducible refine BrG.nn ?_ | with_reducible refine BrG.ns ?_ | refine BrG.pos (by omega) ?_ | refine BrG.neg (by omega) ?_ | with_reducible refine BrG.pos rfl ?_ | refine BrG.pos (by assumption) ?_ | refine BrG.neg (by assumption) ?_ | refine BrG.pos (by decide) ?_ | refine BrG.neg (by decide) ?_) | refine Chk.mk (ptr_ok tblOk rfl rfl) ?_ | refine NilG.mk (fun _ => by kernel_rfl) ?_ | refine Chk.mk (by decide) ?_)
  refine SemW.draw tblOk mixed (fun w' => St w T0 ((ab, repO r a cap) :: L2) w') [8] [0, 1, 2, 3, 5, 6, 7, 4, 8] (by kernel_rfl) hS.drew ?_
  have hS := hS.drew
  repeat (first | refine SemW.run tblOk ?_ | refine IntG.nw (by omega) ?_ | refine IntG.nu8 (by omega) ?_ | refine IntG.nu32 (by omega) ?_ | refine IntG.nu64 (by omega) ?_ | refine IntG.wr' rfl ?_ | refine Chk.mk (by omega) ?_ | (refine BrG.id ?_; first | with_reducible refine BrG.t ?_ | with_reducible refine BrG.f ?_ | with_reducible refine BrG.notG ?_ | with_reducible refine BrG.nn ?_ | with_reducible refine BrG.ns ?_ | refine BrG.pos (by omega) ?_ | refine BrG.neg (by omega) ?_ | with_reducible refine BrG.pos rfl ?_ | refine BrG.pos (by assumption) ?_ | refine BrG.neg (by assumption) ?_ | refine BrG.pos (by decide) ?_ | refine BrG.neg (by decide) ?_) | refine Chk.mk (ptr_ok tblOk rfl rfl) ?_ | refine NilG.mk (fun _ => by kernel_rfl) ?_ | refine Chk.mk (by decide) ?_ | refine hS.ldC rfl ?_ | refine hS.ldnC rfl ?_)
  refine hS.al ?_
  intro q w3 _ hS
  refine Chk.mk (hS.sub (List.sublist_cons_self _ _)) ?_
  repeat (first | refine SemW.run tblOk ?_ | refine IntG.nw (by omega) ?_ | refine IntG.nu8 (by omega) ?_ | refine IntG.nu32 (by omega) ?_ | refine IntG.nu64 (by omega) ?_ | refine IntG.wr' rfl ?_ | refine Chk.mk (by omega) ?_ | (refine BrG.id ?_; first | with_reducible refine BrG.t ?_ | with_reducible refine BrG.f ?_ | with_reducible refine BrG.notG ?_ | with_reducible refine BrG.nn ?_ | with_reducible refine BrG.ns ?_ | refine BrG.pos (by omega) ?_ | refine BrG.neg (by omega) ?_ | with_reducible refine BrG.pos rfl ?_ | refine BrG.pos (by assumption) ?_ | refine BrG.neg (by assumption) ?_ | refine BrG.pos (by decide) ?_ | refine BrG.neg (by decide) ?_) | refine Chk.mk (ptr_ok tblOk rfl rfl) ?_ | refine NilG.mk (fun _ => by kernel_rfl) ?_ | refine Chk.mk (by decide) ?_ | refine hS.ldC rfl ?_ | refine hS.ldnC rfl ?_)
  have hcell : ∀ j v, (replyC r a cap)[j]? = some v → ab ∉ keys L2 ∧ w3.cell? ⟨ab, j, none⟩ = some v := fun j v h => ⟨nodup_chunk (L := L2) (hS.sub (List.sublist_cons_self _ _)), hS.cell (b := ab) h⟩
  refine InvG.mk ⟨f_wire_writer_marks, wrV pb, by kernel_rfl, ?_⟩
  refine Cl.mono (wmarks_spec hW (hS.part (L := L2)) (ps := [(ab, 6)]) (l := [r.over]) (hS.arr (b := q) (nodup_chunk hS)) rfl (ptrsAt_cons (hcell 6 _ rfl) ptrsAt_nil) (by simp) (by simp only [List.length_append]; omega)) ?_
  rintro _ w4 ⟨L3, hW, hS'⟩
  have hS := (hS.call (L := L2) hS').sub (List.sublist_cons_self _ _)
  repeat (first | refine SemW.run tblOk ?_ | refine IntG.nw (by omega) ?_ | refine IntG.nu8 (by omega) ?_ | refine IntG.nu32 (by omega) ?_ | refine IntG.nu64 (by omega) ?_ | refine IntG.wr' rfl ?_ | refine Chk.mk (by omega) ?_ | (refine BrG.id ?_; first | with_reducible refine BrG.t ?_ | with_reducible refine BrG.f ?_ | with_reducible refine BrG.notG ?_ | with_reducible refine BrG.nn ?_ | with_reducible refine BrG.ns ?_ | refine BrG.pos (by omega) ?_ | refine BrG.neg (by omega) ?_ | with_reducible refine BrG.pos rfl ?_ | refine BrG.pos (by assumption) ?_ | refine BrG.neg (by assumption) ?_ | refine BrG.pos (by decide) ?_ | refine BrG.neg (by decide) ?_) | refine Chk.mk (ptr_ok tblOk rfl rfl) ?_ | refine NilG.mk (fun _ => by kernel_rfl) ?_ | refine Chk.mk (by decide) ?_)
  refine SemW.draw tblOk mixed (fun w' => St w T0 ((ab, repO r a cap) :: L3) w') [27] [0, 1, 2, 3, 4, 5, 6, 7, 8, 9, 10, 11, 12, 13, 14, 15, 16, 17, 18, 19, 20, 21, 22, 24, 25, 26, 23, 27] (by kernel_rfl) hS.drew ?_
  have hS := hS.drew
  repeat (first | refine SemW.run tblOk ?_ | refine IntG.nw (by omega) ?_ | refine IntG.nu8 (by omega) ?_ | refine IntG.nu32 (by omega) ?_ | refine IntG.nu64 (by omega) ?_ | refine IntG.wr' rfl ?_ | refine Chk.mk (by omega) ?_ | (refine BrG.id ?_; first | with_reducible refine BrG.t ?_ | with_reducible refine BrG.f ?_ | with_reducible refine BrG.notG ?_ | with_reducible refine BrG.nn ?_ | with_reducible refine BrG.ns ?_ | refine BrG.pos (by omega) ?_ | refine BrG.neg (by omega) ?_ | with_reducible refine BrG.pos rfl ?_ | refine BrG.pos (by assumption) ?_ | refine BrG.neg (by assumption) ?_ | refine BrG.pos (by decide) ?_ | refine BrG.neg (by decide) ?_) | refine Chk.mk (ptr_ok tblOk rfl rfl) ?_ | refine NilG.mk (fun _ => by kernel_rfl) ?_ | refine Chk.mk (by decide) ?_ | refine hS.ldC rfl ?_ | refine hS.ldnC rfl ?_)
  refine hS.al ?_
  intro q w3 _ hS
  refine Chk.mk (hS.sub (List.sublist_cons_self _ _)) ?_
  repeat (first | refine SemW.run tblOk ?_ | refine IntG.nw (by omega) ?_ | refine IntG.nu8 (by omega) ?_ | refine IntG.nu32 (by omega) ?_ | refine IntG.nu64 (by omega) ?_ | refine IntG.wr' rfl ?_ | refine Chk.mk (by omega) ?_ | (refine BrG.id ?_; first | with_reducible refine BrG.t ?_ | with_reducible refine BrG.f ?_ | with_reducible refine BrG.notG ?_ | with_reducible refine BrG.nn ?_ | with_reducible refine BrG.ns ?_ | refine BrG.pos (by omega) ?_ | refine BrG.neg (by omega) ?_ | with_reducible refine BrG.pos rfl ?_ | refine BrG.pos (by assumption) ?_ | refine BrG.neg (by assumption) ?_ | refine BrG.pos (by decide) ?_ | refine BrG.neg (by decide) ?_) | refine Chk.mk (ptr_ok tblOk rfl rfl) ?_ | refine NilG.mk (fun _ => by kernel_rfl) ?_ | refine Chk.mk (by decide) ?_ | refine hS.ldC rfl ?_ | refine hS.ldnC rfl ?_)
  have hcell : ∀ j v, (replyC r a cap)[j]? = some v → ab ∉ keys L3 ∧ w3.cell? ⟨ab, j, none⟩ = some v := fun j v h => ⟨nodup_chunk (L := L3) (hS.sub (List.sublist_cons_self _ _)), hS.cell (b := ab) h⟩
  refine InvG.mk ⟨f_wire_writer_int, wrV pb, by kernel_rfl, ?_⟩
  refine Cl.mono (wint_spec hW (hS.part (L := L3)) (ps := [(ab, 7), (ab, 8), (ab, 9), (ab, 14), (ab, 15), (ab, 16), (ab, 17)]) (zs := [r.pax.id, r.pax.flight, r.pax.cab, r.pax.cls, r.pax.status, r.pax.tick, r.pax.pass]) (hS.arr (b := q) (nodup_chunk hS)) rfl (ptrsAt_cons (hcell 7 _ rfl) (ptrsAt_cons (hcell 8 _ rfl) (ptrsAt_cons (hcell 9 _ rfl) (ptrsAt_cons (hcell 14 _ rfl) (ptrsAt_cons (hcell 15 _ rfl) (ptrsAt_cons (hcell 16 _ rfl) (ptrsAt_cons (hcell 17 _ rfl) ptrsAt_nil))))))) hpall.2 (by simp only [List.length_append, List.length_cons, List.length_nil]; omega)) ?_
  rintro _ w4 ⟨L4, hW, hS'⟩
  have hS := (hS.call (L := L3) hS').sub (List.sublist_cons_self _ _)
  repeat (first | refine SemW.run tblOk ?_ | refine IntG.nw (by omega) ?_ | refine IntG.nu8 (by omega) ?_ | refine IntG.nu32 (by omega) ?_ | refine IntG.nu64 (by omega) ?_ | refine IntG.wr' rfl ?_ | refine Chk.mk (by omega) ?_ | (refine BrG.id ?_; first | with_reducible refine BrG.t ?_ | with_reducible refine BrG.f ?_ | with_reducible refine BrG.notG ?_ | with_reducible refine BrG.nn ?_ | with_reducible refine BrG.ns ?_ | refine BrG.pos (by omega) ?_ | refine BrG.neg (by omega) ?_ | with_reducible refine BrG.pos rfl ?_ | refine BrG.pos (by assumption) ?_ | refine BrG.neg (by assumption) ?_ | refine BrG.pos (by decide) ?_ | refine BrG.neg (by decide) ?_) | refine Chk.mk (ptr_ok tblOk rfl rfl) ?_ | refine NilG.mk (fun _ => by kernel_rfl) ?_ | refine Chk.mk (by decide) ?_)
  refine SemW.draw tblOk mixed (fun w' => St w T0 ((ab, repO r a cap) :: L4) w') [19] [0, 1, 2, 3, 4, 5, 6, 7, 8, 9, 10, 11, 12, 13, 14, 16, 17, 18, 15, 19] (by kernel_rfl) hS.drew ?_
  have hS := hS.drew
  repeat (first | refine SemW.run tblOk ?_ | refine IntG.nw (by omega) ?_ | refine IntG.nu8 (by omega) ?_ | refine IntG.nu32 (by omega) ?_ | refine IntG.nu64 (by omega) ?_ | refine IntG.wr' rfl ?_ | refine Chk.mk (by omega) ?_ | (refine BrG.id ?_; first | with_reducible refine BrG.t ?_ | with_reducible refine BrG.f ?_ | with_reducible refine BrG.notG ?_ | with_reducible refine BrG.nn ?_ | with_reducible refine BrG.ns ?_ | refine BrG.pos (by omega) ?_ | refine BrG.neg (by omega) ?_ | with_reducible refine BrG.pos rfl ?_ | refine BrG.pos (by assumption) ?_ | refine BrG.neg (by assumption) ?_ | refine BrG.pos (by decide) ?_ | refine BrG.neg (by decide) ?_) | refine Chk.mk (ptr_ok tblOk rfl rfl) ?_ | refine NilG.mk (fun _ => by kernel_rfl) ?_ | refine Chk.mk (by decide) ?_ | refine hS.ldC rfl ?_ | refine hS.ldnC rfl ?_)
  refine hS.al ?_
  intro q w3 _ hS
  refine Chk.mk (hS.sub (List.sublist_cons_self _ _)) ?_
  repeat (first | refine SemW.run tblOk ?_ | refine IntG.nw (by omega) ?_ | refine IntG.nu8 (by omega) ?_ | refine IntG.nu32 (by omega) ?_ | refine IntG.nu64 (by omega) ?_ | refine IntG.wr' rfl ?_ | refine Chk.mk (by omega) ?_ | (refine BrG.id ?_; first | with_reducible refine BrG.t ?_ | with_reducible refine BrG.f ?_ | with_reducible refine BrG.notG ?_ | with_reducible refine BrG.nn ?_ | with_reducible refine BrG.ns ?_ | refine BrG.pos (by omega) ?_ | refine BrG.neg (by omega) ?_ | with_reducible refine BrG.pos rfl ?_ | refine BrG.pos (by assumption) ?_ | refine BrG.neg (by assumption) ?_ | refine BrG.pos (by decide) ?_ | refine BrG.neg (by decide) ?_) | refine Chk.mk (ptr_ok tblOk rfl rfl) ?_ | refine NilG.mk (fun _ => by kernel_rfl) ?_ | refine Chk.mk (by decide) ?_ | refine hS.ldC rfl ?_ | refine hS.ldnC rfl ?_)
  have hcell : ∀ j v, (replyC r a cap)[j]? = some v → ab ∉ keys L4 ∧ w3.cell? ⟨ab, j, none⟩ = some v := fun j v h => ⟨nodup_chunk (L := L4) (hS.sub (List.sublist_cons_self _ _)), hS.cell (b := ab) h⟩
  refine InvG.mk ⟨f_wire_writer_marks, wrV pb, by kernel_rfl, ?_⟩
  refine Cl.mono (wmarks_spec hW (hS.part (L := L4)) (ps := [(ab, 10), (ab, 11), (ab, 12), (ab, 13)]) (l := [r.pax.fit, r.pax.infant, r.pax.vol, r.pax.stb]) (hS.arr (b := q) (nodup_chunk hS)) rfl (ptrsAt_cons (hcell 10 _ rfl) (ptrsAt_cons (hcell 11 _ rfl) (ptrsAt_cons (hcell 12 _ rfl) (ptrsAt_cons (hcell 13 _ rfl) ptrsAt_nil)))) (by simp) (by simp only [List.length_append]; omega)) ?_
  rintro _ w4 ⟨L5, hW, hS'⟩
  have hS := (hS.call (L := L4) hS').sub (List.sublist_cons_self _ _)
  repeat (first | refine SemW.run tblOk ?_ | refine IntG.nw (by omega) ?_ | refine IntG.nu8 (by omega) ?_ | refine IntG.nu32 (by omega) ?_ | refine IntG.nu64 (by omega) ?_ | refine IntG.wr' rfl ?_ | refine Chk.mk (by omega) ?_ | (refine BrG.id ?_; first | with_reducible refine BrG.t ?_ | with_reducible refine BrG.f ?_ | with_reducible refine BrG.notG ?_ | with_reducible refine BrG.nn ?_ | with_reducible refine BrG.ns ?_ | refine BrG.pos (by omega) ?_ | refine BrG.neg (by omega) ?_ | with_reducible refine BrG.pos rfl ?_ | refine BrG.pos (by assumption) ?_ | refine BrG.neg (by assumption) ?_ | refine BrG.pos (by decide) ?_ | refine BrG.neg (by decide) ?_) | refine Chk.mk (ptr_ok tblOk rfl rfl) ?_ | refine NilG.mk (fun _ => by kernel_rfl) ?_ | refine Chk.mk (by decide) ?_)
  have hcs := hS.cellNew (L := L5) hsb.1 hsb.2
  refine InvG.mk ⟨f_wire_writer_text, wrV pb, by kernel_rfl, ?_⟩
  refine Cl.mono (wtext_spec hW (hS.part (L := L5)) (p := (sb, 0)) (x := seatB r.pax.num r.pax.c) hcs (by simp only [List.length_append]; omega)) ?_
  rintro _ w4 ⟨L6, hW, hS'⟩
  have hS := hS.call (L := L5) hS'
  repeat (first | refine SemW.run tblOk ?_ | refine IntG.nw (by omega) ?_ | refine IntG.nu8 (by omega) ?_ | refine IntG.nu32 (by omega) ?_ | refine IntG.nu64 (by omega) ?_ | refine IntG.wr' rfl ?_ | refine Chk.mk (by omega) ?_ | (refine BrG.id ?_; first | with_reducible refine BrG.t ?_ | with_reducible refine BrG.f ?_ | with_reducible refine BrG.notG ?_ | with_reducible refine BrG.nn ?_ | with_reducible refine BrG.ns ?_ | refine BrG.pos (by omega) ?_ | refine BrG.neg (by omega) ?_ | with_reducible refine BrG.pos rfl ?_ | refine BrG.pos (by assumption) ?_ | refine BrG.neg (by assumption) ?_ | refine BrG.pos (by decide) ?_ | refine BrG.neg (by decide) ?_) | refine Chk.mk (ptr_ok tblOk rfl rfl) ?_ | refine NilG.mk (fun _ => by kernel_rfl) ?_ | refine Chk.mk (by decide) ?_)
  refine SemW.draw tblOk mixed (fun w' => St w T0 ((ab, repO r a cap) :: L6) w') [7] [0, 1, 2, 3, 4, 5, 6, 7] (by kernel_rfl) hS.drew ?_
  have hS := hS.drew
  repeat (first | refine SemW.run tblOk ?_ | refine IntG.nw (by omega) ?_ | refine IntG.nu8 (by omega) ?_ | refine IntG.nu32 (by omega) ?_ | refine IntG.nu64 (by omega) ?_ | refine IntG.wr' rfl ?_ | refine Chk.mk (by omega) ?_ | (refine BrG.id ?_; first | with_reducible refine BrG.t ?_ | with_reducible refine BrG.f ?_ | with_reducible refine BrG.notG ?_ | with_reducible refine BrG.nn ?_ | with_reducible refine BrG.ns ?_ | refine BrG.pos (by omega) ?_ | refine BrG.neg (by omega) ?_ | with_reducible refine BrG.pos rfl ?_ | refine BrG.pos (by assumption) ?_ | refine BrG.neg (by assumption) ?_ | refine BrG.pos (by decide) ?_ | refine BrG.neg (by decide) ?_) | refine Chk.mk (ptr_ok tblOk rfl rfl) ?_ | refine NilG.mk (fun _ => by kernel_rfl) ?_ | refine Chk.mk (by decide) ?_ | refine hS.ldC rfl ?_ | refine hS.ldnC rfl ?_)
  have hct : ab ∉ keys L6 ∧ _ := ⟨nodup_chunk (L := L6) hS, hS.cell (b := ab) (off := 20) (v := Str r.text) rfl⟩
  refine InvG.mk ⟨f_wire_writer_text, wrV pb, by kernel_rfl, ?_⟩
  refine Cl.mono (wtext_spec hW (hS.part (L := L6)) (p := (ab, 20)) (x := r.text) hct (by simp only [List.length_append, textB]; omega)) ?_
  rintro _ w4 ⟨L7, hW, hS'⟩
  have hS := hS.call (L := L6) hS'
  repeat (first | refine SemW.run tblOk ?_ | refine IntG.nw (by omega) ?_ | refine IntG.nu8 (by omega) ?_ | refine IntG.nu32 (by omega) ?_ | refine IntG.nu64 (by omega) ?_ | refine IntG.wr' rfl ?_ | refine Chk.mk (by omega) ?_ | (refine BrG.id ?_; first | with_reducible refine BrG.t ?_ | with_reducible refine BrG.f ?_ | with_reducible refine BrG.notG ?_ | with_reducible refine BrG.nn ?_ | with_reducible refine BrG.ns ?_ | refine BrG.pos (by omega) ?_ | refine BrG.neg (by omega) ?_ | with_reducible refine BrG.pos rfl ?_ | refine BrG.pos (by assumption) ?_ | refine BrG.neg (by assumption) ?_ | refine BrG.pos (by decide) ?_ | refine BrG.neg (by decide) ?_) | refine Chk.mk (ptr_ok tblOk rfl rfl) ?_ | refine NilG.mk (fun _ => by kernel_rfl) ?_ | refine Chk.mk (by decide) ?_)
  refine ⟨L7, ?_, hS⟩
  unfold replyB paxI
  simpa using hW
end Go.Proofs.YthpmmfapolcaiaaDoor

/- Package wire: Reply. -/
namespace Go.Proofs.YthpmmfapolcaiaaDoor
open Go Go.Eng Go.Proofs
/-- A reply that is handed in. -/
structure ArgR (w : World) (r : ReplyM) (a : Option Addr) (cap : Nat) : Prop where
  ids : Arr w [] a (r.ids.map intV)
  ok : r.ok
  ni : r.ids.length ≤ 16777216
  nt : r.text.length ≤ 16777216
theorem ArgR.keep {w0 w : World} {H : Heap} (hS : St w0 [] H w) {r : ReplyM} {a : Option Addr} {cap : Nat} (h : ArgR w0 r a cap) : ArgR w r a cap := ⟨hS.arrOld h.ids, h.ok, h.ni, h.nt⟩
theorem intsC_one (l : List Int) : (l.map intV).all Value.oneCell' = true := by
  induction l with
  | nil => rfl
  | cons p ps ih => rw [List.map_cons, List.all_cons, ih]; rfl
set_option maxHeartbeats 2000000 in
theorem cloneInt_spec {w : World} {a : Option Addr} {cap : Nat} {l : List Int} (ha : Arr w [] a (l.map intV)) (hlen : l.length ≤ 16777216) :
    Cl Tryd.prog f_slices_Clone_int_int [.slice a l.length cap] w fun v w' => ∃ a' c' L, v = .slice a' l.length c' ∧ Vec T_int 1 a' l.length c' (l.map intV) L ∧ St w [] L w' := by
  have hS := St.start w
  refine en_slices_Clone_int_int rfl ?_
  rcases a with _ | p
  · have hl : l = [] := by
      cases l with
      | nil => rfl
      | cons x l => obtain ⟨g, off, h, -⟩ := ha.get (j := 0) (by simp); cases h
    subst hl
    repeat (first | refine SemW.run tblOk ?_ | refine IntG.nw (by omega) ?_ | refine IntG.nu8 (by omega) ?_ | refine IntG.nu32 (by omega) ?_ | refine IntG.nu64 (by omega) ?_ | refine IntG.wr' rfl ?_ | refine Chk.mk (by omega) ?_ | (refine BrG.id ?_; first | with_reducible refine BrG.t ?_ | with_reducible refine BrG.f ?_ | with_reducible refine BrG.notG ?_ | with_reducible refine BrG.nn ?_ | with_reducible refine BrG.ns ?_ | refine BrG.pos (by omega) ?_ | refine BrG.neg (by omega) ?_ | with_reducible refine BrG.pos rfl ?_ | refine BrG.pos (by assumption) ?_ | refine BrG.neg (by assumption) ?_ | refine BrG.pos (by decide) ?_ | refine BrG.neg (by decide) ?_) | refine Chk.mk (ptr_ok tblOk rfl rfl) ?_ | refine NilG.mk (fun _ => by kernel_rfl) ?_ | refine Chk.mk (by decide) ?_)
    refine eqlSlNil tblOk rfl rfl ?_
    repeat (first | refine SemW.run tblOk ?_ | refine IntG.nw (by omega) ?_ | refine IntG.nu8 (by omega) ?_ | refine IntG.nu32 (by omega) ?_ | refine IntG.nu64 (by omega) ?_ | refine IntG.wr' rfl ?_ | refine Chk.mk (by omega) ?_ | (refine BrG.id ?_; first | with_reducible refine BrG.t ?_ | with_reducible refine BrG.f ?_ | with_reducible refine BrG.notG ?_ | with_reducible refine BrG.nn ?_ | with_reducible refine BrG.ns ?_ | refine BrG.pos (by omega) ?_ | refine BrG.neg (by omega) ?_ | with_reducible refine BrG.pos rfl ?_ | refine BrG.pos (by assumption) ?_ | refine BrG.neg (by assumption) ?_ | refine BrG.pos (by decide) ?_ | refine BrG.neg (by decide) ?_) | refine Chk.mk (ptr_ok tblOk rfl rfl) ?_ | refine NilG.mk (fun _ => by kernel_rfl) ?_ | refine Chk.mk (by decide) ?_)
    exact ⟨_, _, [], rfl, Vec.nil, hS⟩
  · repeat (first | refine SemW.run tblOk ?_ | refine IntG.nw (by omega) ?_ | refine IntG.nu8 (by omega) ?_ | refine IntG.nu32 (by omega) ?_ | refine IntG.nu64 (by omega) ?_ | refine IntG.wr' rfl ?_ | refine Chk.mk (by omega) ?_ | (refine BrG.id ?_; first | with_reducible refine BrG.t ?_ | with_reducible refine BrG.f ?_ | with_reducible refine BrG.notG ?_ | with_reducible refine BrG.nn ?_ | with_reducible refine BrG.ns ?_ | refine BrG.pos (by omega) ?_ | refine BrG.neg (by omega) ?_ | with_reducible refine BrG.pos rfl ?_ | refine BrG.pos (by assumption) ?_ | refine BrG.neg (by assumption) ?_ | refine BrG.pos (by decide) ?_ | refine BrG.neg (by decide) ?_) | refine Chk.mk (ptr_ok tblOk rfl rfl) ?_ | refine NilG.mk (fun _ => by kernel_rfl) ?_ | refine Chk.mk (by decide) ?_)
    refine eqlSlNil tblOk rfl rfl ?_
    repeat (first | refine SemW.run tblOk ?_ | refine IntG.nw (by omega) ?_ | refine IntG.nu8 (by omega) ?_ | refine IntG.nu32 (by omega) ?_ | refine IntG.nu64 (by omega) ?_ | refine IntG.wr' rfl ?_ | refine Chk.mk (by omega) ?_ | (refine BrG.id ?_; first | with_reducible refine BrG.t ?_ | with_reducible refine BrG.f ?_ | with_reducible refine BrG.notG ?_ | with_reducible refine BrG.nn ?_ | with_reducible refine BrG.ns ?_ | refine BrG.pos (by omega) ?_ | refine BrG.neg (by omega) ?_ | with_reducible refine BrG.pos rfl ?_ | refine BrG.pos (by assumption) ?_ | refine BrG.neg (by assumption) ?_ | refine BrG.pos (by decide) ?_ | refine BrG.neg (by decide) ?_) | refine Chk.mk (ptr_ok tblOk rfl rfl) ?_ | refine NilG.mk (fun _ => by kernel_rfl) ?_ | refine Chk.mk (by decide) ?_)
    refine hS.al ?_
    intro r w1 _ hS
    have hv : Vec T_int 1 (some ⟨r, 0, none⟩) 0 0 [] [(r, .cells ⟨[]⟩ T_int (0, 0))] := Vec.row r 0 0 [] [] rfl rfl (Nat.le_refl _)
    repeat (first | refine SemW.run tblOk ?_ | refine IntG.nw (by omega) ?_ | refine IntG.nu8 (by omega) ?_ | refine IntG.nu32 (by omega) ?_ | refine IntG.nu64 (by omega) ?_ | refine IntG.wr' rfl ?_ | refine Chk.mk (by omega) ?_ | (refine BrG.id ?_; first | with_reducible refine BrG.t ?_ | with_reducible refine BrG.f ?_ | with_reducible refine BrG.notG ?_ | with_reducible refine BrG.nn ?_ | with_reducible refine BrG.ns ?_ | refine BrG.pos (by omega) ?_ | refine BrG.neg (by omega) ?_ | with_reducible refine BrG.pos rfl ?_ | refine BrG.pos (by assumption) ?_ | refine BrG.neg (by assumption) ?_ | refine BrG.pos (by decide) ?_ | refine BrG.neg (by decide) ?_) | refine Chk.mk (ptr_ok tblOk rfl rfl) ?_ | refine NilG.mk (fun _ => by kernel_rfl) ?_ | refine Chk.mk (by decide) ?_)
    refine St.app (sz := 1) (m := l.length) tblOk rfl rfl rfl rfl hS hv (news := l.map intV) (by simp) (hS.arrOld ha) (intsC_one l) (by show (_ + _) * 8 ≤ _; omega) (by omega) ?_
    intro a1 c1 L1 w2 hv hS
    rw [List.nil_append, Nat.zero_add] at hv
    rw [Nat.zero_add]
    repeat (first | refine SemW.run tblOk ?_ | refine IntG.nw (by omega) ?_ | refine IntG.nu8 (by omega) ?_ | refine IntG.nu32 (by omega) ?_ | refine IntG.nu64 (by omega) ?_ | refine IntG.wr' rfl ?_ | refine Chk.mk (by omega) ?_ | (refine BrG.id ?_; first | with_reducible refine BrG.t ?_ | with_reducible refine BrG.f ?_ | with_reducible refine BrG.notG ?_ | with_reducible refine BrG.nn ?_ | with_reducible refine BrG.ns ?_ | refine BrG.pos (by omega) ?_ | refine BrG.neg (by omega) ?_ | with_reducible refine BrG.pos rfl ?_ | refine BrG.pos (by assumption) ?_ | refine BrG.neg (by assumption) ?_ | refine BrG.pos (by decide) ?_ | refine BrG.neg (by decide) ?_) | refine Chk.mk (ptr_ok tblOk rfl rfl) ?_ | refine NilG.mk (fun _ => by kernel_rfl) ?_ | refine Chk.mk (by decide) ?_)
    exact ⟨a1, c1, L1, rfl, hv, hS⟩
def repOut (r : ReplyM) : List Value := if seatGood r.pax.num r.pax.c = true ∧ (replyB r).length ≤ 65536 then [Str (frameB (replyB r)), .int .i64 0] else [Str [], .int .i64 34]
theorem replyB_len {r : ReplyM} (hok : r.ok) (hni : r.ids.length ≤ 16777216) (hnt : r.text.length ≤ 16777216) : (replyB r).length ≤ 1099511627776 := by
  have hp := hok.pax
  have hsl := seatB_len r.pax.num r.pax.c
  have hi1 := ints_len [r.code] (all1 hok.code).2
  have hi2 := ints_len r.ids hok.ids
  have hi3 := ints_len [r.n0, r.n1, r.n2, r.n3] (all4 hok.n0 hok.n1 hok.n2 hok.n3).2
  have hi4 := ints_len (paxI r.pax) (all7 hp.id hp.flight hp.cab hp.cls hp.status hp.tick hp.pass).2
  have hn1 := numB_len10 r.ids.length (by omega)
  have hn2 := numB_len10 (marksN [r.over]) (by have h3' : marksN [r.over] < 2 := marksN_lt [r.over]; omega)
  have hn3 := numB_len10 (marksN [r.pax.fit, r.pax.infant, r.pax.vol, r.pax.stb]) (by have := marks4_lt r.pax.fit r.pax.infant r.pax.vol r.pax.stb; omega)
  have hn4 := numB_len10 (seatB r.pax.num r.pax.c).length (by omega)
  have hn5 := numB_len10 r.text.length (by omega)
  have hpi : (paxI r.pax).length = 7 := rfl
  simp only [List.length_cons, List.length_nil] at hi1 hi3
  unfold replyB textB
  simp only [List.length_append]; omega
set_option maxRecDepth 4000 in
set_option maxHeartbeats 8000000 in
theorem Reply_spec {w : World} {r : ReplyM} {a : Option Addr} {cap : Nat} (hA : ArgR w r a cap) : Cl Tryd.prog f_wire_Reply [.agg ⟨replyC r a cap⟩] w fun v w' => v = .tuple ⟨repOut r⟩ ∧ St w [] [] w' := by
  have hS := St.start w
  have hok := hA.ok
  have hbl := replyB_len hok hA.ni hA.nt
  have hsl := seatB_len r.pax.num r.pax.c
  unfold repOut
  refine en_wire_Reply rfl ?_
  repeat (first | refine SemW.run tblOk ?_ | refine IntG.nw (by omega) ?_ | refine IntG.nu8 (by omega) ?_ | refine IntG.nu32 (by omega) ?_ | refine IntG.nu64 (by omega) ?_ | refine IntG.wr' rfl ?_ | refine Chk.mk (by omega) ?_ | (refine BrG.id ?_; first | with_reducible refine BrG.t ?_ | with_reducible refine BrG.f ?_ | with_reducible refine BrG.notG ?_ | with_reducible refine BrG.nn ?_ | with_reducible refine BrG.ns ?_ | refine BrG.pos (by omega) ?_ | refine BrG.neg (by omega) ?_ | with_reducible refine BrG.pos rfl ?_ | refine BrG.pos (by assumption) ?_ | refine BrG.neg (by assumption) ?_ | refine BrG.pos (by decide) ?_ | refine BrG.neg (by decide) ?_) | refine Chk.mk (ptr_ok tblOk rfl rfl) ?_ | refine NilG.mk (fun _ => by kernel_rfl) ?_ | refine Chk.mk (by decide) ?_)
  refine hS.al ?_
  intro b1 w1 _ hS
  repeat (first | refine SemW.run tblOk ?_ | refine IntG.nw (by omega) ?_ | refine IntG.nu8 (by omega) ?_ | refine IntG.nu32 (by omega) ?_ | refine IntG.nu64 (by omega) ?_ | refine IntG.wr' rfl ?_ | refine Chk.mk (by omega) ?_ | (refine BrG.id ?_; first | with_reducible refine BrG.t ?_ | with_reducible refine BrG.f ?_ | with_reducible refine BrG.notG ?_ | with_reducible refine BrG.nn ?_ | with_reducible refine BrG.ns ?_ | refine BrG.pos (by omega) ?_ | refine BrG.neg (by omega) ?_ | with_reducible refine BrG.pos rfl ?_ | refine BrG.pos (by assumption) ?_ | refine BrG.neg (by assumption) ?_ | refine BrG.pos (by decide) ?_ | refine BrG.neg (by decide) ?_) | refine Chk.mk (ptr_ok tblOk rfl rfl) ?_ | refine NilG.mk (fun _ => by kernel_rfl) ?_ | refine Chk.mk (by decide) ?_ | refine hS.ld rfl ?_ | refine hS.ldn rfl ?_ | (refine hS.st rfl rfl ?_; intro _ hS))
  refine hS.al ?_
  intro sb w2 _ hS
  repeat (first | refine SemW.run tblOk ?_ | refine IntG.nw (by omega) ?_ | refine IntG.nu8 (by omega) ?_ | refine IntG.nu32 (by omega) ?_ | refine IntG.nu64 (by omega) ?_ | refine IntG.wr' rfl ?_ | refine Chk.mk (by omega) ?_ | (refine BrG.id ?_; first | with_reducible refine BrG.t ?_ | with_reducible refine BrG.f ?_ | with_reducible refine BrG.notG ?_ | with_reducible refine BrG.nn ?_ | with_reducible refine BrG.ns ?_ | refine BrG.pos (by omega) ?_ | refine BrG.neg (by omega) ?_ | with_reducible refine BrG.pos rfl ?_ | refine BrG.pos (by assumption) ?_ | refine BrG.neg (by assumption) ?_ | refine BrG.pos (by decide) ?_ | refine BrG.neg (by decide) ?_) | refine Chk.mk (ptr_ok tblOk rfl rfl) ?_ | refine NilG.mk (fun _ => by kernel_rfl) ?_ | refine Chk.mk (by decide) ?_ | refine hS.ld rfl ?_ | refine hS.ldn rfl ?_ | (refine hS.st rfl rfl ?_; intro _ hS))
  refine neqAgg (n := 2) (by omega) (by kernel_rfl) (eqSeat r.pax.num r.pax.c 0 0) ?_
  by_cases hz : r.pax.num = 0 ∧ r.pax.c = 0
  · have hz2 : seatB r.pax.num r.pax.c = [] := if_pos hz
    have hsg : seatGood r.pax.num r.pax.c = true := by unfold seatGood; rw [hz2]; rfl
    have hne : ¬ seatB r.pax.num r.pax.c = [45] := by rw [hz2]; decide
    rw [decide_eq_true hz, Bool.not_true]
    have hS := (show St w [] [(sb, .cells ⟨[Str []]⟩ T_string (0, 0)), (b1, repO r a cap)] _ from hS)
    rw [← hz2] at hS
    repeat (first | refine SemW.run tblOk ?_ | refine IntG.nw (by omega) ?_ | refine IntG.nu8 (by omega) ?_ | refine IntG.nu32 (by omega) ?_ | refine IntG.nu64 (by omega) ?_ | refine IntG.wr' rfl ?_ | refine Chk.mk (by omega) ?_ | (refine BrG.id ?_; first | with_reducible refine BrG.t ?_ | with_reducible refine BrG.f ?_ | with_reducible refine BrG.notG ?_ | with_reducible refine BrG.nn ?_ | with_reducible refine BrG.ns ?_ | refine BrG.pos (by omega) ?_ | refine BrG.neg (by omega) ?_ | with_reducible refine BrG.pos rfl ?_ | refine BrG.pos (by assumption) ?_ | refine BrG.neg (by assumption) ?_ | refine BrG.pos (by decide) ?_ | refine BrG.neg (by decide) ?_) | refine Chk.mk (ptr_ok tblOk rfl rfl) ?_ | refine NilG.mk (fun _ => by kernel_rfl) ?_ | refine Chk.mk (by decide) ?_ | refine hS.ld rfl ?_ | refine hS.ldn rfl ?_ | (refine hS.st rfl rfl ?_; intro _ hS))
    refine Cl.mono PNew_spec ?_
    rintro _ w3 ⟨pb, L, rfl, hW, hS'⟩
    have hS := hS.callNew hS'
    repeat (first | refine SemW.run tblOk ?_ | refine IntG.nw (by omega) ?_ | refine IntG.nu8 (by omega) ?_ | refine IntG.nu32 (by omega) ?_ | refine IntG.nu64 (by omega) ?_ | refine IntG.wr' rfl ?_ | refine Chk.mk (by omega) ?_ | (refine BrG.id ?_; first | with_reducible refine BrG.t ?_ | with_reducible refine BrG.f ?_ | with_reducible refine BrG.notG ?_ | with_reducible refine BrG.nn ?_ | with_reducible refine BrG.ns ?_ | refine BrG.pos (by omega) ?_ | refine BrG.neg (by omega) ?_ | with_reducible refine BrG.pos rfl ?_ | refine BrG.pos (by assumption) ?_ | refine BrG.neg (by assumption) ?_ | refine BrG.pos (by decide) ?_ | refine BrG.neg (by decide) ?_) | refine Chk.mk (ptr_ok tblOk rfl rfl) ?_ | refine NilG.mk (fun _ => by kernel_rfl) ?_ | refine Chk.mk (by decide) ?_ | refine hS.ld rfl ?_ | refine hS.ldn rfl ?_ | (refine hS.st rfl rfl ?_; intro _ hS))
    refine hS.al ?_
    intro b5 w4 _ hS
    repeat (first | refine SemW.run tblOk ?_ | refine IntG.nw (by omega) ?_ | refine IntG.nu8 (by omega) ?_ | refine IntG.nu32 (by omega) ?_ | refine IntG.nu64 (by omega) ?_ | refine IntG.wr' rfl ?_ | refine Chk.mk (by omega) ?_ | (refine BrG.id ?_; first | with_reducible refine BrG.t ?_ | with_reducible refine BrG.f ?_ | with_reducible refine BrG.notG ?_ | with_reducible refine BrG.nn ?_ | with_reducible refine BrG.ns ?_ | refine BrG.pos (by omega) ?_ | refine BrG.neg (by omega) ?_ | with_reducible refine BrG.pos rfl ?_ | refine BrG.pos (by assumption) ?_ | refine BrG.neg (by assumption) ?_ | refine BrG.pos (by decide) ?_ | refine BrG.neg (by decide) ?_) | refine Chk.mk (ptr_ok tblOk rfl rfl) ?_ | refine NilG.mk (fun _ => by kernel_rfl) ?_ | refine Chk.mk (by decide) ?_ | refine hS.ld rfl ?_ | refine hS.ldn rfl ?_ | (refine hS.st rfl rfl ?_; intro _ hS))
    refine hS.al ?_
    intro b6 w5 _ hS
    repeat (first | refine SemW.run tblOk ?_ | refine IntG.nw (by omega) ?_ | refine IntG.nu8 (by omega) ?_ | refine IntG.nu32 (by omega) ?_ | refine IntG.nu64 (by omega) ?_ | refine IntG.wr' rfl ?_ | refine Chk.mk (by omega) ?_ | (refine BrG.id ?_; first | with_reducible refine BrG.t ?_ | with_reducible refine BrG.f ?_ | with_reducible refine BrG.notG ?_ | with_reducible refine BrG.nn ?_ | with_reducible refine BrG.ns ?_ | refine BrG.pos (by omega) ?_ | refine BrG.neg (by omega) ?_ | with_reducible refine BrG.pos rfl ?_ | refine BrG.pos (by assumption) ?_ | refine BrG.neg (by assumption) ?_ | refine BrG.pos (by decide) ?_ | refine BrG.neg (by decide) ?_) | refine Chk.mk (ptr_ok tblOk rfl rfl) ?_ | refine NilG.mk (fun _ => by kernel_rfl) ?_ | refine Chk.mk (by decide) ?_ | refine hS.ld rfl ?_ | refine hS.ldn rfl ?_ | (refine hS.st rfl rfl ?_; intro _ hS))
    refine Cl.mono (cloneInt_spec (hS.arrOld hA.ids) hA.ni) ?_
    rintro _ w6 ⟨a', c', Lr, rfl, hv, hS'⟩
    have hS := hS.callNew hS'
    repeat (first | refine SemW.run tblOk ?_ | refine IntG.nw (by omega) ?_ | refine IntG.nu8 (by omega) ?_ | refine IntG.nu32 (by omega) ?_ | refine IntG.nu64 (by omega) ?_ | refine IntG.wr' rfl ?_ | refine Chk.mk (by omega) ?_ | (refine BrG.id ?_; first | with_reducible refine BrG.t ?_ | with_reducible refine BrG.f ?_ | with_reducible refine BrG.notG ?_ | with_reducible refine BrG.nn ?_ | with_reducible refine BrG.ns ?_ | refine BrG.pos (by omega) ?_ | refine BrG.neg (by omega) ?_ | with_reducible refine BrG.pos rfl ?_ | refine BrG.pos (by assumption) ?_ | refine BrG.neg (by assumption) ?_ | refine BrG.pos (by decide) ?_ | refine BrG.neg (by decide) ?_) | refine Chk.mk (ptr_ok tblOk rfl rfl) ?_ | refine NilG.mk (fun _ => by kernel_rfl) ?_ | refine Chk.mk (by decide) ?_ | refine hS.ld rfl ?_ | refine hS.ldn rfl ?_ | (refine hS.st rfl rfl ?_; intro _ hS))
    have hS : St w [] (Lr ++ ((b6, repO r a' c') :: (b5, .cells ⟨[ptr pb]⟩ T_wire_writer (0, 0)) :: (L ++ [(sb, .cells ⟨[Str (seatB r.pax.num r.pax.c)]⟩ T_string (0, 0)), (b1, repO r a cap)]))) _ := hS
    have hS : St w [] (Lr ++ ((b5, .cells ⟨[ptr pb]⟩ T_wire_writer (0, 0)) :: (((b6, repO r a' c') :: L) ++ [(sb, .cells ⟨[Str (seatB r.pax.num r.pax.c)]⟩ T_string (0, 0)), (b1, repO r a cap)]))) _ := hS.perm (List.Perm.append_left Lr (List.Perm.swap _ _ _))
    have hsbn : sb ∉ b6 :: keys L := by
      have h1 := hS.sub (((List.Sublist.append_left (List.Sublist.cons_cons _ (List.nil_sublist _)) _).trans (List.sublist_cons_self _ _)).trans (List.sublist_append_right _ _) : (((b6, repO r a' c') :: L) ++ [(sb, Obj.cells ⟨[Str (seatB r.pax.num r.pax.c)]⟩ T_string (0, 0))]).Sublist _)
      have h2 : St w [] ((sb, Obj.cells ⟨[Str (seatB r.pax.num r.pax.c)]⟩ T_string (0, 0)) :: ((b6, repO r a' c') :: L)) _ := h1.perm List.perm_append_comm
      exact nodup_chunk (L := (b6, repO r a' c') :: L) h2
    have hrn : ∀ b ∈ keys Lr, b ∉ b6 :: keys L := not_in (B := (b6, repO r a' c') :: L) (hS.sub (List.Sublist.append_left (List.sublist_cons_self _ _) Lr))
    refine Cl.mono (reply_wr (r := r) (a := a') (cap := c') hW (hS.part (L := (b6, repO r a' c') :: L)) ⟨hsbn, hS.cell (b := sb) rfl⟩ (hv.arr hS hrn) hok hA.ni hA.nt) ?_
    rintro _ w7 ⟨L2, hW, hS'⟩
    have hS := hS.call (L := (b6, repO r a' c') :: L) hS'
    have hS : St w [] (Lr ++ ((b5, .cells ⟨[ptr pb]⟩ T_wire_writer (0, 0)) :: (b6, repO r a' c') :: (L2 ++ [(sb, .cells ⟨[Str (seatB r.pax.num r.pax.c)]⟩ T_string (0, 0)), (b1, repO r a cap)]))) _ := hS
    repeat (first | refine SemW.run tblOk ?_ | refine IntG.nw (by omega) ?_ | refine IntG.nu8 (by omega) ?_ | refine IntG.nu32 (by omega) ?_ | refine IntG.nu64 (by omega) ?_ | refine IntG.wr' rfl ?_ | refine Chk.mk (by omega) ?_ | (refine BrG.id ?_; first | with_reducible refine BrG.t ?_ | with_reducible refine BrG.f ?_ | with_reducible refine BrG.notG ?_ | with_reducible refine BrG.nn ?_ | with_reducible refine BrG.ns ?_ | refine BrG.pos (by omega) ?_ | refine BrG.neg (by omega) ?_ | with_reducible refine BrG.pos rfl ?_ | refine BrG.pos (by assumption) ?_ | refine BrG.neg (by assumption) ?_ | refine BrG.pos (by decide) ?_ | refine BrG.neg (by decide) ?_) | refine Chk.mk (ptr_ok tblOk rfl rfl) ?_ | refine NilG.mk (fun _ => by kernel_rfl) ?_ | refine Chk.mk (by decide) ?_ | refine hS.ld rfl ?_ | refine hS.ldn rfl ?_ | (refine hS.st rfl rfl ?_; intro _ hS))
    refine Cl.mono (wseal_spec hW (hS.part (L := L2)) (by omega)) ?_
    rintro _ w8 ⟨rfl, hS'⟩
    have hS := hS.call0 hS'
    by_cases hl : (replyB r).length ≤ 65536
    · rw [if_pos hl, if_pos ⟨hsg, hl⟩]
      repeat (first | refine SemW.run tblOk ?_ | refine IntG.nw (by omega) ?_ | refine IntG.nu8 (by omega) ?_ | refine IntG.nu32 (by omega) ?_ | refine IntG.nu64 (by omega) ?_ | refine IntG.wr' rfl ?_ | refine Chk.mk (by omega) ?_ | (refine BrG.id ?_; first | with_reducible refine BrG.t ?_ | with_reducible refine BrG.f ?_ | with_reducible refine BrG.notG ?_ | with_reducible refine BrG.nn ?_ | with_reducible refine BrG.ns ?_ | refine BrG.pos (by omega) ?_ | refine BrG.neg (by omega) ?_ | with_reducible refine BrG.pos rfl ?_ | refine BrG.pos (by assumption) ?_ | refine BrG.neg (by assumption) ?_ | refine BrG.pos (by decide) ?_ | refine BrG.neg (by decide) ?_) | refine Chk.mk (ptr_ok tblOk rfl rfl) ?_ | refine NilG.mk (fun _ => by kernel_rfl) ?_ | refine Chk.mk (by decide) ?_ | refine hS.ld rfl ?_ | refine hS.ldn rfl ?_ | (refine hS.st rfl rfl ?_; intro _ hS))
      exact ⟨rfl, hS.nil⟩
    · rw [if_neg hl, if_neg (fun h => hl h.2)]
      repeat (first | refine SemW.run tblOk ?_ | refine IntG.nw (by omega) ?_ | refine IntG.nu8 (by omega) ?_ | refine IntG.nu32 (by omega) ?_ | refine IntG.nu64 (by omega) ?_ | refine IntG.wr' rfl ?_ | refine Chk.mk (by omega) ?_ | (refine BrG.id ?_; first | with_reducible refine BrG.t ?_ | with_reducible refine BrG.f ?_ | with_reducible refine BrG.notG ?_ | with_reducible refine BrG.nn ?_ | with_reducible refine BrG.ns ?_ | refine BrG.pos (by omega) ?_ | refine BrG.neg (by omega) ?_ | with_reducible refine BrG.pos rfl ?_ | refine BrG.pos (by assumption) ?_ | refine BrG.neg (by assumption) ?_ | refine BrG.pos (by decide) ?_ | refine BrG.neg (by decide) ?_) | refine Chk.mk (ptr_ok tblOk rfl rfl) ?_ | refine NilG.mk (fun _ => by kernel_rfl) ?_ | refine Chk.mk (by decide) ?_ | refine hS.ld rfl ?_ | refine hS.ldn rfl ?_ | (refine hS.st rfl rfl ?_; intro _ hS))
      exact ⟨rfl, hS.nil⟩
  · have hz2 : seatB r.pax.num r.pax.c = labelB r.pax.num r.pax.c := if_neg hz
    rw [decide_eq_false hz, Bool.not_false]
    repeat (first | refine SemW.run tblOk ?_ | refine IntG.nw (by omega) ?_ | refine IntG.nu8 (by omega) ?_ | refine IntG.nu32 (by omega) ?_ | refine IntG.nu64 (by omega) ?_ | refine IntG.wr' rfl ?_ | refine Chk.mk (by omega) ?_ | (refine BrG.id ?_; first | with_reducible refine BrG.t ?_ | with_reducible refine BrG.f ?_ | with_reducible refine BrG.notG ?_ | with_reducible refine BrG.nn ?_ | with_reducible refine BrG.ns ?_ | refine BrG.pos (by omega) ?_ | refine BrG.neg (by omega) ?_ | with_reducible refine BrG.pos rfl ?_ | refine BrG.pos (by assumption) ?_ | refine BrG.neg (by assumption) ?_ | refine BrG.pos (by decide) ?_ | refine BrG.neg (by decide) ?_) | refine Chk.mk (ptr_ok tblOk rfl rfl) ?_ | refine NilG.mk (fun _ => by kernel_rfl) ?_ | refine Chk.mk (by decide) ?_ | refine hS.ld rfl ?_ | refine hS.ldn rfl ?_ | (refine hS.st rfl rfl ?_; intro _ hS))
    refine Cl.mono (Label_spec r.pax.num r.pax.c hok.pax.c) ?_
    rintro _ w3 ⟨rfl, hS'⟩
    have hS := hS.call0 hS'
    rw [← hz2]
    cases hsg : seatGood r.pax.num r.pax.c with
    | true =>
      have hne : ¬ seatB r.pax.num r.pax.c = [45] := of_decide_eq_true hsg
      have hsg : true = true := rfl
      repeat (first | refine SemW.run tblOk ?_ | refine IntG.nw (by omega) ?_ | refine IntG.nu8 (by omega) ?_ | refine IntG.nu32 (by omega) ?_ | refine IntG.nu64 (by omega) ?_ | refine IntG.wr' rfl ?_ | refine Chk.mk (by omega) ?_ | (refine BrG.id ?_; first | with_reducible refine BrG.t ?_ | with_reducible refine BrG.f ?_ | with_reducible refine BrG.notG ?_ | with_reducible refine BrG.nn ?_ | with_reducible refine BrG.ns ?_ | refine BrG.pos (by omega) ?_ | refine BrG.neg (by omega) ?_ | with_reducible refine BrG.pos rfl ?_ | refine BrG.pos (by assumption) ?_ | refine BrG.neg (by assumption) ?_ | refine BrG.pos (by decide) ?_ | refine BrG.neg (by decide) ?_) | refine Chk.mk (ptr_ok tblOk rfl rfl) ?_ | refine NilG.mk (fun _ => by kernel_rfl) ?_ | refine Chk.mk (by decide) ?_ | refine hS.ld rfl ?_ | refine hS.ldn rfl ?_ | (refine hS.st rfl rfl ?_; intro _ hS))
      refine Cl.mono PNew_spec ?_
      rintro _ w3 ⟨pb, L, rfl, hW, hS'⟩
      have hS := hS.callNew hS'
      repeat (first | refine SemW.run tblOk ?_ | refine IntG.nw (by omega) ?_ | refine IntG.nu8 (by omega) ?_ | refine IntG.nu32 (by omega) ?_ | refine IntG.nu64 (by omega) ?_ | refine IntG.wr' rfl ?_ | refine Chk.mk (by omega) ?_ | (refine BrG.id ?_; first | with_reducible refine BrG.t ?_ | with_reducible refine BrG.f ?_ | with_reducible refine BrG.notG ?_ | with_reducible refine BrG.nn ?_ | with_reducible refine BrG.ns ?_ | refine BrG.pos (by omega) ?_ | refine BrG.neg (by omega) ?_ | with_reducible refine BrG.pos rfl ?_ | refine BrG.pos (by assumption) ?_ | refine BrG.neg (by assumption) ?_ | refine BrG.pos (by decide) ?_ | refine BrG.neg (by decide) ?_) | refine Chk.mk (ptr_ok tblOk rfl rfl) ?_ | refine NilG.mk (fun _ => by kernel_rfl) ?_ | refine Chk.mk (by decide) ?_ | refine hS.ld rfl ?_ | refine hS.ldn rfl ?_ | (refine hS.st rfl rfl ?_; intro _ hS))
      refine hS.al ?_
      intro b5 w4 _ hS
      repeat (first | refine SemW.run tblOk ?_ | refine IntG.nw (by omega) ?_ | refine IntG.nu8 (by omega) ?_ | refine IntG.nu32 (by omega) ?_ | refine IntG.nu64 (by omega) ?_ | refine IntG.wr' rfl ?_ | refine Chk.mk (by omega) ?_ | (refine BrG.id ?_; first | with_reducible refine BrG.t ?_ | with_reducible refine BrG.f ?_ | with_reducible refine BrG.notG ?_ | with_reducible refine BrG.nn ?_ | with_reducible refine BrG.ns ?_ | refine BrG.pos (by omega) ?_ | refine BrG.neg (by omega) ?_ | with_reducible refine BrG.pos rfl ?_ | refine BrG.pos (by assumption) ?_ | refine BrG.neg (by assumption) ?_ | refine BrG.pos (by decide) ?_ | refine BrG.neg (by decide) ?_) | refine Chk.mk (ptr_ok tblOk rfl rfl) ?_ | refine NilG.mk (fun _ => by kernel_rfl) ?_ | refine Chk.mk (by decide) ?_ | refine hS.ld rfl ?_ | refine hS.ldn rfl ?_ | (refine hS.st rfl rfl ?_; intro _ hS))
      refine hS.al ?_
      intro b6 w5 _ hS
      repeat (first | refine SemW.run tblOk ?_ | refine IntG.nw (by omega) ?_ | refine IntG.nu8 (by omega) ?_ | refine IntG.nu32 (by omega) ?_ | refine IntG.nu64 (by omega) ?_ | refine IntG.wr' rfl ?_ | refine Chk.mk (by omega) ?_ | (refine BrG.id ?_; first | with_reducible refine BrG.t ?_ | with_reducible refine BrG.f ?_ | with_reducible refine BrG.notG ?_ | with_reducible refine BrG.nn ?_ | with_reducible refine BrG.ns ?_ | refine BrG.pos (by omega) ?_ | refine BrG.neg (by omega) ?_ | with_reducible refine BrG.pos rfl ?_ | refine BrG.pos (by assumption) ?_ | refine BrG.neg (by assumption) ?_ | refine BrG.pos (by decide) ?_ | refine BrG.neg (by decide) ?_) | refine Chk.mk (ptr_ok tblOk rfl rfl) ?_ | refine NilG.mk (fun _ => by kernel_rfl) ?_ | refine Chk.mk (by decide) ?_ | refine hS.ld rfl ?_ | refine hS.ldn rfl ?_ | (refine hS.st rfl rfl ?_; intro _ hS))
      refine Cl.mono (cloneInt_spec (hS.arrOld hA.ids) hA.ni) ?_
      rintro _ w6 ⟨a', c', Lr, rfl, hv, hS'⟩
      have hS := hS.callNew hS'
      repeat (first | refine SemW.run tblOk ?_ | refine IntG.nw (by omega) ?_ | refine IntG.nu8 (by omega) ?_ | refine IntG.nu32 (by omega) ?_ | refine IntG.nu64 (by omega) ?_ | refine IntG.wr' rfl ?_ | refine Chk.mk (by omega) ?_ | (refine BrG.id ?_; first | with_reducible refine BrG.t ?_ | with_reducible refine BrG.f ?_ | with_reducible refine BrG.notG ?_ | with_reducible refine BrG.nn ?_ | with_reducible refine BrG.ns ?_ | refine BrG.pos (by omega) ?_ | refine BrG.neg (by omega) ?_ | with_reducible refine BrG.pos rfl ?_ | refine BrG.pos (by assumption) ?_ | refine BrG.neg (by assumption) ?_ | refine BrG.pos (by decide) ?_ | refine BrG.neg (by decide) ?_) | refine Chk.mk (ptr_ok tblOk rfl rfl) ?_ | refine NilG.mk (fun _ => by kernel_rfl) ?_ | refine Chk.mk (by decide) ?_ | refine hS.ld rfl ?_ | refine hS.ldn rfl ?_ | (refine hS.st rfl rfl ?_; intro _ hS))
      have hS : St w [] (Lr ++ ((b6, repO r a' c') :: (b5, .cells ⟨[ptr pb]⟩ T_wire_writer (0, 0)) :: (L ++ [(sb, .cells ⟨[Str (seatB r.pax.num r.pax.c)]⟩ T_string (0, 0)), (b1, repO r a cap)]))) _ := hS
      have hS : St w [] (Lr ++ ((b5, .cells ⟨[ptr pb]⟩ T_wire_writer (0, 0)) :: (((b6, repO r a' c') :: L) ++ [(sb, .cells ⟨[Str (seatB r.pax.num r.pax.c)]⟩ T_string (0, 0)), (b1, repO r a cap)]))) _ := hS.perm (List.Perm.append_left Lr (List.Perm.swap _ _ _))
      have hsbn : sb ∉ b6 :: keys L := by
        have h1 := hS.sub (((List.Sublist.append_left (List.Sublist.cons_cons _ (List.nil_sublist _)) _).trans (List.sublist_cons_self _ _)).trans (List.sublist_append_right _ _) : (((b6, repO r a' c') :: L) ++ [(sb, Obj.cells ⟨[Str (seatB r.pax.num r.pax.c)]⟩ T_string (0, 0))]).Sublist _)
        have h2 : St w [] ((sb, Obj.cells ⟨[Str (seatB r.pax.num r.pax.c)]⟩ T_string (0, 0)) :: ((b6, repO r a' c') :: L)) _ := h1.perm List.perm_append_comm
        exact nodup_chunk (L := (b6, repO r a' c') :: L) h2
      have hrn : ∀ b ∈ keys Lr, b ∉ b6 :: keys L := not_in (B := (b6, repO r a' c') :: L) (hS.sub (List.Sublist.append_left (List.sublist_cons_self _ _) Lr))
      refine Cl.mono (reply_wr (r := r) (a := a') (cap := c') hW (hS.part (L := (b6, repO r a' c') :: L)) ⟨hsbn, hS.cell (b := sb) rfl⟩ (hv.arr hS hrn) hok hA.ni hA.nt) ?_
      rintro _ w7 ⟨L2, hW, hS'⟩
      have hS := hS.call (L := (b6, repO r a' c') :: L) hS'
      have hS : St w [] (Lr ++ ((b5, .cells ⟨[ptr pb]⟩ T_wire_writer (0, 0)) :: (b6, repO r a' c') :: (L2 ++ [(sb, .cells ⟨[Str (seatB r.pax.num r.pax.c)]⟩ T_string (0, 0)), (b1, repO r a cap)]))) _ := hS
      repeat (first | refine SemW.run tblOk ?_ | refine IntG.nw (by omega) ?_ | refine IntG.nu8 (by omega) ?_ | refine IntG.nu32 (by omega) ?_ | refine IntG.nu64 (by omega) ?_ | refine IntG.wr' rfl ?_ | refine Chk.mk (by omega) ?_ | (refine BrG.id ?_; first | with_reducible refine BrG.t ?_ | with_reducible refine BrG.f ?_ | with_reducible refine BrG.notG ?_ | with_reducible refine BrG.nn ?_ | with_reducible refine BrG.ns ?_ | refine BrG.pos (by omega) ?_ | refine BrG.neg (by omega) ?_ | with_reducible refine BrG.pos rfl ?_ | refine BrG.pos (by assumption) ?_ | refine BrG.neg (by assumption) ?_ | refine BrG.pos (by decide) ?_ | refine BrG.neg (by decide) ?_) | refine Chk.mk (ptr_ok tblOk rfl rfl) ?_ | refine NilG.mk (fun _ => by kernel_rfl) ?_ | refine Chk.mk (by decide) ?_ | refine hS.ld rfl ?_ | refine hS.ldn rfl ?_ | (refine hS.st rfl rfl ?_; intro _ hS))
      refine Cl.mono (wseal_spec hW (hS.part (L := L2)) (by omega)) ?_
      rintro _ w8 ⟨rfl, hS'⟩
      have hS := hS.call0 hS'
      by_cases hl : (replyB r).length ≤ 65536
      · rw [if_pos hl, if_pos ⟨hsg, hl⟩]
        repeat (first | refine SemW.run tblOk ?_ | refine IntG.nw (by omega) ?_ | refine IntG.nu8 (by omega) ?_ | refine IntG.nu32 (by omega) ?_ | refine IntG.nu64 (by omega) ?_ | refine IntG.wr' rfl ?_ | refine Chk.mk (by omega) ?_ | (refine BrG.id ?_; first | with_reducible refine BrG.t ?_ | with_reducible refine BrG.f ?_ | with_reducible refine BrG.notG ?_ | with_reducible refine BrG.nn ?_ | with_reducible refine BrG.ns ?_ | refine BrG.pos (by omega) ?_ | refine BrG.neg (by omega) ?_ | with_reducible refine BrG.pos rfl ?_ | refine BrG.pos (by assumption) ?_ | refine BrG.neg (by assumption) ?_ | refine BrG.pos (by decide) ?_ | refine BrG.neg (by decide) ?_) | refine Chk.mk (ptr_ok tblOk rfl rfl) ?_ | refine NilG.mk (fun _ => by kernel_rfl) ?_ | refine Chk.mk (by decide) ?_ | refine hS.ld rfl ?_ | refine hS.ldn rfl ?_ | (refine hS.st rfl rfl ?_; intro _ hS))
        exact ⟨rfl, hS.nil⟩
      · rw [if_neg hl, if_neg (fun h => hl h.2)]
        repeat (first | refine SemW.run tblOk ?_ | refine IntG.nw (by omega) ?_ | refine IntG.nu8 (by omega) ?_ | refine IntG.nu32 (by omega) ?_ | refine IntG.nu64 (by omega) ?_ | refine IntG.wr' rfl ?_ | refine Chk.mk (by omega) ?_ | (refine BrG.id ?_; first | with_reducible refine BrG.t ?_ | with_reducible refine BrG.f ?_ | with_reducible refine BrG.notG ?_ | with_reducible refine BrG.nn ?_ | with_reducible refine BrG.ns ?_ | refine BrG.pos (by omega) ?_ | refine BrG.neg (by omega) ?_ | with_reducible refine BrG.pos rfl ?_ | refine BrG.pos (by assumption) ?_ | refine BrG.neg (by assumption) ?_ | refine BrG.pos (by decide) ?_ | refine BrG.neg (by decide) ?_) | refine Chk.mk (ptr_ok tblOk rfl rfl) ?_ | refine NilG.mk (fun _ => by kernel_rfl) ?_ | refine Chk.mk (by decide) ?_ | refine hS.ld rfl ?_ | refine hS.ldn rfl ?_ | (refine hS.st rfl rfl ?_; intro _ hS))
        exact ⟨rfl, hS.nil⟩
    | false =>
      have hne : seatB r.pax.num r.pax.c = [45] := Decidable.not_not.1 (of_decide_eq_false hsg)
      rw [if_neg (by rintro ⟨h, -⟩; cases h)]
      repeat (first | refine SemW.run tblOk ?_ | refine IntG.nw (by omega) ?_ | refine IntG.nu8 (by omega) ?_ | refine IntG.nu32 (by omega) ?_ | refine IntG.nu64 (by omega) ?_ | refine IntG.wr' rfl ?_ | refine Chk.mk (by omega) ?_ | (refine BrG.id ?_; first | with_reducible refine BrG.t ?_ | with_reducible refine BrG.f ?_ | with_reducible refine BrG.notG ?_ | with_reducible refine BrG.nn ?_ | with_reducible refine BrG.ns ?_ | refine BrG.pos (by omega) ?_ | refine BrG.neg (by omega) ?_ | with_reducible refine BrG.pos rfl ?_ | refine BrG.pos (by assumption) ?_ | refine BrG.neg (by assumption) ?_ | refine BrG.pos (by decide) ?_ | refine BrG.neg (by decide) ?_) | refine Chk.mk (ptr_ok tblOk rfl rfl) ?_ | refine NilG.mk (fun _ => by kernel_rfl) ?_ | refine Chk.mk (by decide) ?_ | refine hS.ld rfl ?_ | refine hS.ldn rfl ?_ | (refine hS.st rfl rfl ?_; intro _ hS))
      exact ⟨rfl, hS.nil⟩
end Go.Proofs.YthpmmfapolcaiaaDoor

/- tarmaclaw23.lives. -/
namespace Go.Proofs.YthpmmfapolcaiaaDoor
open Go Go.Eng Go.Proofs
def liveC : CmdM := { hdC 5 7 with id := 3 }
theorem liveC_ok : liveC.ok := { hdC_ok (⟨by decide, by decide⟩ : i64ok 5) (⟨by decide, by decide⟩ : i64ok 7) with id := ⟨by decide, by decide⟩ }
theorem liveC_right : RightC liveC := by decide
theorem liveC_bytes : cmdB liveC = [5, 14, 6] := by
  have h1 : numB 5 = [5] := numB_lt (by decide)
  have h2 : intB 7 = [14] := numB_lt (by decide)
  have h3 : intB 3 = [6] := numB_lt (by decide)
  show numB 5 ++ (intB 7 ++ intsB [3]) = _
  rw [h1, h2]
  show [5] ++ ([14] ++ [intB 3].flatten) = _
  rw [h3]
  rfl
def liveR : ReplyM := ⟨0, [], 0, 0, 0, 0, false, ⟨0, 0, 0, false, false, false, false, 0, 0, 0, 0, 0, 0⟩, []⟩
theorem liveR_ok : liveR.ok := ⟨ok0, (by nofun), ok0, ok0, ok0, ok0, ⟨ok0, ok0, ok0, ok0, ok0, ok0, ok0, ok0, (by decide : 0 < 256)⟩⟩
theorem liveR_len : (replyB liveR).length = 17 := by
  have h0 : numB 0 = [0] := numB_lt (by decide)
  have h1 : intB 0 = [0] := h0
  have h2 : ∀ l : List Int, (∀ z ∈ l, z = 0) → (intsB l).length = l.length := by
    intro l
    induction l with
    | nil => intro _; rfl
    | cons z l ih =>
      intro hz
      rw [hz z List.mem_cons_self]
      show (intB 0 ++ intsB l).length = _
      rw [h1, List.length_append, ih fun y hy => hz y (List.mem_cons_of_mem _ hy), List.length_cons]; simp; omega
  have a1 := h2 [0] (by simp)
  have a2 := h2 [0, 0, 0, 0] (by simp)
  have a3 := h2 [0, 0, 0, 0, 0, 0, 0] (by simp)
  have e : replyB liveR = intsB [0] ++ (numB 0 ++ (intsB [] ++ (intsB [0, 0, 0, 0] ++ (numB 0 ++ (intsB [0, 0, 0, 0, 0, 0, 0] ++ (numB 0 ++ ((numB 0 ++ []) ++ (numB 0 ++ [])))))))) := rfl
  rw [e, h0]
  simp only [List.length_append, a1, a2, a3, List.length_cons, List.length_nil]
  rfl
set_option maxRecDepth 8000 in
set_option maxHeartbeats 4000000 in
theorem lives_spec {w : World} : Cl Tryd.prog f_tarmaclaw23_lives [] w fun v w' => v = .bool true ∧ St w [] [] w' := by
  have hS := St.start w
  have hA : ArgC w liveC none 0 := ⟨⟨Arr.nil _ _ _, Nat.le_refl _⟩, liveC_ok, Nat.zero_le _, Nat.zero_le _, by nofun⟩
  have hR : ArgR w liveR none 0 := ⟨Arr.nil _ _ _, liveR_ok, Nat.zero_le _, Nat.zero_le _⟩
  have hrl := liveR_len
  have hfl := frameB_len (replyB liveR)
  refine en_tarmaclaw23_lives rfl ?_
  repeat (first | refine SemW.run tblOk ?_ | refine IntG.nw (by omega) ?_ | refine IntG.nu8 (by omega) ?_ | refine IntG.nu32 (by omega) ?_ | refine IntG.nu64 (by omega) ?_ | refine IntG.wr' rfl ?_ | refine Chk.mk (by omega) ?_ | (refine BrG.id ?_; first | with_reducible refine BrG.t ?_ | with_reducible refine BrG.f ?_ | with_reducible refine BrG.notG ?_ | with_reducible refine BrG.nn ?_ | with_reducible refine BrG.ns ?_ | refine BrG.pos (by omega) ?_ | refine BrG.neg (by omega) ?_ | with_reducible refine BrG.pos rfl ?_ | refine BrG.pos (by assumption) ?_ | refine BrG.neg (by assumption) ?_ | refine BrG.pos (by decide) ?_ | refine BrG.neg (by decide) ?_) | refine Chk.mk (ptr_ok tblOk rfl rfl) ?_ | refine NilG.mk (fun _ => by kernel_rfl) ?_ | refine Chk.mk (by decide) ?_)
  refine Cl.mono (Command_spec hA) ?_
  rintro _ w1 ⟨rfl, hS'⟩
  have hS := hS.call0 hS'
  clear hA
  unfold cmdO
  rw [if_pos liveC_right, liveC_bytes]
  repeat (first | refine SemW.run tblOk ?_ | refine IntG.nw (by omega) ?_ | refine IntG.nu8 (by omega) ?_ | refine IntG.nu32 (by omega) ?_ | refine IntG.nu64 (by omega) ?_ | refine IntG.wr' rfl ?_ | refine Chk.mk (by omega) ?_ | (refine BrG.id ?_; first | with_reducible refine BrG.t ?_ | with_reducible refine BrG.f ?_ | with_reducible refine BrG.notG ?_ | with_reducible refine BrG.nn ?_ | with_reducible refine BrG.ns ?_ | refine BrG.pos (by omega) ?_ | refine BrG.neg (by omega) ?_ | with_reducible refine BrG.pos rfl ?_ | refine BrG.pos (by assumption) ?_ | refine BrG.neg (by assumption) ?_ | refine BrG.pos (by decide) ?_ | refine BrG.neg (by decide) ?_) | refine Chk.mk (ptr_ok tblOk rfl rfl) ?_ | refine NilG.mk (fun _ => by kernel_rfl) ?_ | refine Chk.mk (by decide) ?_)
  refine hS.al ?_
  intro q w2 _ hS
  repeat (first | refine SemW.run tblOk ?_ | refine IntG.nw (by omega) ?_ | refine IntG.nu8 (by omega) ?_ | refine IntG.nu32 (by omega) ?_ | refine IntG.nu64 (by omega) ?_ | refine IntG.wr' rfl ?_ | refine Chk.mk (by omega) ?_ | (refine BrG.id ?_; first | with_reducible refine BrG.t ?_ | with_reducible refine BrG.f ?_ | with_reducible refine BrG.notG ?_ | with_reducible refine BrG.nn ?_ | with_reducible refine BrG.ns ?_ | refine BrG.pos (by omega) ?_ | refine BrG.neg (by omega) ?_ | with_reducible refine BrG.pos rfl ?_ | refine BrG.pos (by assumption) ?_ | refine BrG.neg (by assumption) ?_ | refine BrG.pos (by decide) ?_ | refine BrG.neg (by decide) ?_) | refine Chk.mk (ptr_ok tblOk rfl rfl) ?_ | refine NilG.mk (fun _ => by kernel_rfl) ?_ | refine Chk.mk (by decide) ?_)
  refine Cl.mono (Seal_spec (ps := [[5, 14, 6]]) (by decide) (hS.arr (b := q) (by simp))) ?_
  rintro _ w3 ⟨rfl, hS'⟩
  have hS := hS.call0 hS'
  rw [if_pos (by decide), sealB_one]
  repeat (first | refine SemW.run tblOk ?_ | refine IntG.nw (by omega) ?_ | refine IntG.nu8 (by omega) ?_ | refine IntG.nu32 (by omega) ?_ | refine IntG.nu64 (by omega) ?_ | refine IntG.wr' rfl ?_ | refine Chk.mk (by omega) ?_ | (refine BrG.id ?_; first | with_reducible refine BrG.t ?_ | with_reducible refine BrG.f ?_ | with_reducible refine BrG.notG ?_ | with_reducible refine BrG.nn ?_ | with_reducible refine BrG.ns ?_ | refine BrG.pos (by omega) ?_ | refine BrG.neg (by omega) ?_ | with_reducible refine BrG.pos rfl ?_ | refine BrG.pos (by assumption) ?_ | refine BrG.neg (by assumption) ?_ | refine BrG.pos (by decide) ?_ | refine BrG.neg (by decide) ?_) | refine Chk.mk (ptr_ok tblOk rfl rfl) ?_ | refine NilG.mk (fun _ => by kernel_rfl) ?_ | refine Chk.mk (by decide) ?_)
  refine Cl.mono (Reply_spec (hR.keep hS.nil)) ?_
  rintro _ w4 ⟨rfl, hS'⟩
  have hS := hS.call0 hS'
  unfold repOut
  rw [if_pos ⟨rfl, by omega⟩]
  repeat (first | refine SemW.run tblOk ?_ | refine IntG.nw (by omega) ?_ | refine IntG.nu8 (by omega) ?_ | refine IntG.nu32 (by omega) ?_ | refine IntG.nu64 (by omega) ?_ | refine IntG.wr' rfl ?_ | refine Chk.mk (by omega) ?_ | (refine BrG.id ?_; first | with_reducible refine BrG.t ?_ | with_reducible refine BrG.f ?_ | with_reducible refine BrG.notG ?_ | with_reducible refine BrG.nn ?_ | with_reducible refine BrG.ns ?_ | refine BrG.pos (by omega) ?_ | refine BrG.neg (by omega) ?_ | with_reducible refine BrG.pos rfl ?_ | refine BrG.pos (by assumption) ?_ | refine BrG.neg (by assumption) ?_ | refine BrG.pos (by decide) ?_ | refine BrG.neg (by decide) ?_) | refine Chk.mk (ptr_ok tblOk rfl rfl) ?_ | refine NilG.mk (fun _ => by kernel_rfl) ?_ | refine Chk.mk (by decide) ?_)
  exact ⟨by rw [decide_eq_true (by omega)], hS.nil⟩
end Go.Proofs.YthpmmfapolcaiaaDoor

/- Regions that draw their order, with several effects that only make new memory. -/
namespace Go.Eng
open Go

section
variable {P : Program} {ops : Array Oper} {Q : Exit → Act → World → Prop} {md : Region.Mode} {S : Nat → World → World → Prop}
/-- Whatever order is picked from here on; operation number i leads from w to w' only as S i says. -/
def wpAnyR (P : Program) (md : Region.Mode) (ops : Array Oper) (Q : Exit → Act → World → Prop) (S : Nat → World → World → Prop) : Nat → Array Bool → Act → World → Prop
  | 0, listed, a, w => Region.ready md ops listed = [] ∧ Q .normal a w
  | fuel + 1, listed, a, w =>
    (Region.ready md ops listed = [] → Q .normal a w) ∧
    ∀ i ∈ Region.ready md ops listed, wpOp P ops Q i (fun a' w' => S i w w' ∧ wpAnyR P md ops Q S fuel (listed.setIfInBounds i true) a' w') a w
theorem wpAny_of_R : ∀ (fuel : Nat) (listed : Array Bool) (a : Act) (w : World), wpAnyR P md ops Q S fuel listed a w → wpAny P md ops Q fuel listed a w
  | 0, _, _, _, h => h
  | fuel + 1, _, _, _, h => ⟨h.1, fun i hi => wpOp_mono (fun a' w' h' => wpAny_of_R fuel _ a' w' h'.2) (h.2 i hi)⟩
theorem wpAnyR_first {C : World → Prop} {n i : Nat} {oi : Oper} {v : Value} (hi : ops[i]? = some oi) (hsel : ∀ (j : Nat) (o : Oper) cs b, ops[j]? = some o → o.op ≠ .select cs b)
    (hQ : ∀ c a w, Q (.panic c) (a.put oi.dst v) w → Q (.panic c) a w) (hSi : ∀ w, S i w w) :
    ∀ (fuel : Nat) (listed : Array Bool) (a : Act) (w : World), Closed ops listed →
      (∀ j oj, ops[j]? = some oj → j ≠ i → listed.getD j true = false → dep ops n j i = false → oi.apart ops oj = true ∧ ∀ w1 w2, C w1 → S j w1 w2 → C w2) →
      i ∈ Region.ready .any ops listed → YieldsIf P ops C oi v a → C w →
      wpAnyR P .any ops Q S fuel (listed.setIfInBounds i true) (a.put oi.dst v) w → wpAnyR P .any ops Q S (fuel + 1) listed a w := by
  intro fuel
  induction fuel with
  | zero =>
    intro listed a w _ _ hr hy hS H
    refine ⟨fun h => (by rw [h] at hr; cases hr), fun j hj => ?_⟩
    by_cases hji : j = i
    · subst hji; exact hy.wpOp hi hS ⟨hSi _, H⟩
    · have := ready_mono hj hji
      rw [H.1] at this
      cases this
  | succ fuel ih =>
    intro listed a w hcl hfree hr hy hS H
    refine ⟨fun h => (by rw [h] at hr; cases hr), fun j hj => ?_⟩
    by_cases hji : j = i
    · subst hji; exact hy.wpOp hi hS ⟨hSi _, H⟩
    · have h1 := H.2 j (ready_mono hj hji)
      obtain ⟨hjun, oj, hoj, hall⟩ := mem_ready.1 hj
      have hnot := ready_not_dep (n := n) hcl (mem_ready.1 hr).1 hj
      obtain ⟨hap, hkeep⟩ := hfree j oj hoj hji hjun hnot
      have h2 := wpOp_putIf hoj hap (fun cs b => hsel i oi cs b hi) (fun cs b => hsel j oj cs b hoj) hQ hy h1
      have hfree' : ∀ k ok, ops[k]? = some ok → k ≠ i → (listed.setIfInBounds j true).getD k true = false →
          dep ops n k i = false → oi.apart ops ok = true ∧ ∀ w1 w2, C w1 → S k w1 w2 → C w2 := fun k ok hk hki hun hno => by
        refine hfree k ok hk hki ?_ hno
        by_cases hjk : j = k
        · subst hjk; exact hjun
        · rw [getD_set_ne true hjk] at hun; exact hun
      refine wpOp_mono (fun a' w' h3 => ⟨h3.2.1, ih (listed.setIfInBounds j true) a' w' (hcl.set hj) hfree' (ready_mono hr (Ne.symm hji)) h3.1 (hkeep _ _ hS h3.2.1) ?_⟩) h2
      rw [Array.setIfInBounds_comm _ _ hji]
      exact h3.2.2
end
/-- Nothing but new memory has been made. -/
abbrev Grew (w w' : World) : Prop := St w [] [] w'
theorem Grew.refl (w : World) : Grew w w := St.start w
theorem Grew.trans {w w1 w2 : World} (h : Grew w w1) (h' : Grew w1 w2) : Grew w w2 := St.call0 h h'

def grewS (fin : List Nat) (i : Nat) (w w' : World) : Prop := i ∈ fin ∨ Grew w w'
theorem St.alG {w0 w : World} {T : List Nat} {H : Heap} (hS : St w0 T H w) {o : Obj} {K : Nat → World → Prop} (h : ∀ b w', Grew w w' → St w0 T ((b, o) :: H) w' → K b w') : AllG w o K :=
  ⟨h _ _ ((St.start w).alloc o).nil (hS.alloc o)⟩
theorem St.ldG {w0 w : World} {T : List Nat} {H : Heap} {b off : Nat} {l : List Value} {t : TypeId} {fz : Nat × Nat} {F : Obj → Heap} (hS : St w0 T H w) [Slot H b (.cells ⟨l⟩ t fz) F] {v : Value} (hv : l[off]? = some v)
    {K : Value → Prop} (hk : K v) : LdC (Grew w) ⟨b, off, none⟩ K :=
  ⟨⟨v, fun _ h => h.oldCell (by simp) (hS.cell hv), hk⟩⟩
theorem St.ldnG {w0 w : World} {T : List Nat} {H : Heap} {n b off : Nat} {l : List Value} {t : TypeId} {fz : Nat × Nat} {F : Obj → Heap} (hS : St w0 T H w) [Slot H b (.cells ⟨l⟩ t fz) F] (hn : Nat.ble (off + n) l.length = true)
    {K : List Value → Prop} (hk : forceL ((l.drop off).take n) K) : LdN (Grew w) n b off K := by
  have hle := Nat.le_of_ble_eq_true hn
  refine ⟨⟨_, by simp; omega, fun _ h j v hv => ?_, (forceL_iff _ _).1 hk⟩⟩
  refine h.oldCell (by simp) (hS.cell ?_)
  rw [List.getElem?_take] at hv
  split at hv
  · rw [List.getElem?_drop] at hv; exact hv
  · cases hv
theorem St.ldOldG {w0 w : World} {T : List Nat} {H : Heap} (hS : St w0 T H w) {a : Addr} (hb : a.block ∉ T) {v : Value} (h : w0.cell? a = some v) {K : Value → Prop} (hk : K v) : LdC (Grew w) a K :=
  ⟨⟨v, fun _ h' => h'.oldCell (by simp) (hS.oldCell hb h), hk⟩⟩
/-- i may be taken first: it is pure or reads, and nothing else that could come up now is in its way. -/
def takeOK (ops : Array Oper) (kd : Op → OpKind) (fin : List Nat) (listed : Array Bool) (i : Nat) : Bool := match ops[i]? with
  | none => false
  | some o => (match kd o.op with | .eff => false | _ => true) && (Region.ready .any ops listed).contains i && free' ops listed i && !fin.elem i && finWait ops listed fin i
/-- What is left of a region that draws its order. -/
structure DrawG (P : Program) (T : Tbl) (N : Nat) (all : List Oper) (fin : List Nat) (Q : Exit → Env → World → Prop) (n : Nat) (listed : Array Bool) (e : Env) (w : World) : Prop where
  out : ∀ a, Closed ⟨all⟩ listed → Rel N e a → wpAnyR P .any ⟨all⟩ (lift N Q) (grewS fin) n listed a w
def vcT (P : Program) (T : Tbl) (N : Nat) (all : List Oper) (fin : List Nat) (Q : Exit → Env → World → Prop) (n : Nat) : List Nat → Array Bool → Env → World → Prop
  | [], listed, e, w => DrawG P T N all fin Q n listed e w
  | i :: r, listed, e, w => atK all i fun o => grdG all o.guard e
    (fun e => match kind T o.op with
      | .pure => pureG P T e o.op fun v => putE N o.dst v e fun e' => vcT P T N all fin Q n r (listed.setIfInBounds i true) e' w
      | .read => readG P T e (Grew w) o fun v => putE N o.dst v e fun e' => vcT P T N all fin Q n r (listed.setIfInBounds i true) e' w
      | .eff => False)
    (fun e => putE N o.dst undef e fun e' => vcT P T N all fin Q n r (listed.setIfInBounds i true) e' w)
def takesOK (ops : Array Oper) (kd : Op → OpKind) (fin : List Nat) : List Nat → Array Bool → Bool
  | [], _ => true
  | i :: r, listed => takeOK ops kd fin listed i && takesOK ops kd fin r (listed.setIfInBounds i true)
section
variable {P : Program} {T : Tbl} (hT : TOk P T) {N : Nat} {all : List Oper} {fin : List Nat} {Q : Exit → Env → World → Prop}
include hT
theorem DrawG.takes (hsel : Region.noSelect ⟨all⟩ = true) (n : Nat) : ∀ (is : List Nat) {listed : Array Bool} {e : Env} {w : World} (_h : takesOK ⟨all⟩ (kind T) fin is listed = true) (_g : vcT P T N all fin Q n is listed e w), DrawG P T N all fin Q (n + is.length) listed e w
  | [], _, _, _, _, g => g
  | i :: r, listed, e, w, h, g => by
    refine ⟨fun a hcl hr => ?_⟩
    simp only [takesOK, Bool.and_eq_true] at h
    obtain ⟨h1, h2⟩ := h
    obtain ⟨o, ho, g⟩ := atK_iff g
    have ho' : (Array.mk all)[i]? = some o := by simpa using ho
    unfold takeOK at h1
    simp only [ho', Bool.and_eq_true] at h1
    obtain ⟨⟨⟨⟨hk, hrd⟩, hf⟩, hnf⟩, hw⟩ := h1
    have hready : i ∈ Region.ready .any ⟨all⟩ listed := by simpa using hrd
    have key : ∀ (v : Value) (e' : Env), YieldsIf P ⟨all⟩ (Grew w) o v a → Rel N e' (a.put o.dst v) → vcT P T N all fin Q n r (listed.setIfInBounds i true) e' w →
        wpAnyR P .any ⟨all⟩ (lift N Q) (grewS fin) (n + (i :: r).length) listed a w := by
      intro v e' hy hr' hv
      rw [List.length_cons, ← Nat.add_assoc]
      refine wpAnyR_first (C := Grew w) (n := all.length) ho' (Region.noSelect_spec hsel) (fun c a w h => h.elim) (fun w => .inr (Grew.refl w)) (n + r.length) listed a w hcl ?_ hready hy (Grew.refl w) ?_
      · intro j oj hj hne hun hd
        have hjlt : j < all.length := by have := (Array.getElem?_eq_some_iff.1 hj).1; simpa using this
        simp only [free', ho', List.all_eq_true, List.mem_range] at hf
        have h1 := hf j (by simpa using hjlt)
        have hd' : dep ⟨all⟩ (Array.mk all).size j i = false := hd
        simp only [hj, Bool.or_eq_true, beq_iff_eq, hne, false_or, hun, hd', Bool.false_eq_true] at h1
        refine ⟨h1, fun w1 w2 hw1 hw2 => ?_⟩
        rcases hw2 with hw2 | hw2
        · simp only [finWait, List.all_eq_true] at hw
          have h3 := hw j hw2
          simp only [Bool.or_eq_true, beq_iff_eq, hne, false_or, hun, hd', Bool.false_eq_true] at h3
        · exact hw1.trans hw2
      · exact (DrawG.takes hsel n r h2 hv).out _ (hcl.set hready) hr'
    rcases grdG_iff hr g with ⟨e1, h1, h2, h3⟩ | ⟨e1, h1, h2, h3⟩
    · cases hk' : kind T o.op <;> simp only [hk'] at h3 hk
      case pure =>
        obtain ⟨v, h4, h5⟩ := pureG_sound hT h1 h3
        obtain ⟨e', h6, h7⟩ := putE_iff h4 h1
        exact key v e' (.inl ⟨h2, fun w _ => h5 w⟩) h6 h7
      case read =>
        obtain ⟨v, h4, h5⟩ := readG_sound hT h1 h3
        obtain ⟨e', h6, h7⟩ := putE_iff h4 h1
        exact key v e' (.inl ⟨h2, fun w hw => h5 w hw⟩) h6 h7
    · obtain ⟨e', h6, h7⟩ := putE_iff h3 h1
      exact key undef e' (.inr ⟨h2, rfl⟩) h6 h7
/-- Whatever may come up now. -/
theorem DrawG.alt {n : Nat} {listed : Array Bool} {e : Env} {w : World} (j : Nat) (js : List Nat) (h : Region.ready .any ⟨all⟩ listed = j :: js)
    (g : allP (j :: js) fun i => atK all i fun o => grdG all o.guard e
      (fun e => match kind T o.op with
        | .pure => pureG P T e o.op fun v => putE N o.dst v e fun e' => DrawG P T N all fin Q n (listed.setIfInBounds i true) e' w
        | .read => readG P T e (fun w' => w = w') o fun v => putE N o.dst v e fun e' => DrawG P T N all fin Q n (listed.setIfInBounds i true) e' w
        | .eff => effG P T e o w fun v w' => (match fin.elem i with
          | true => putE N o.dst v e fun e' => DrawG P T N all fin Q n (listed.setIfInBounds i true) e' w'
          | false => Chk (Grew w w') (putE N o.dst v e fun e' => DrawG P T N all fin Q n (listed.setIfInBounds i true) e' w')))
      (fun e => putE N o.dst undef e fun e' => DrawG P T N all fin Q n (listed.setIfInBounds i true) e' w)) : DrawG P T N all fin Q (n + 1) listed e w := by
  refine ⟨fun a hcl hr => ⟨fun h0 => (by rw [h] at h0; cases h0), fun i hi => ?_⟩⟩
  have hcl' := hcl.set hi
  rw [h] at hi
  obtain ⟨o, ho, g⟩ := atK_iff (allP_mem g i hi)
  have ho' : (Array.mk all)[i]? = some o := by simpa using ho
  rcases grdG_iff hr g with ⟨e1, h1, h2, h3⟩ | ⟨e1, h1, h2, h3⟩
  · unfold wpOp
    simp only [ho', h2, if_true]
    refine .inl ?_
    cases hk : kind T o.op <;> simp only [hk] at h3
    case pure =>
      obtain ⟨v, h4, h5⟩ := pureG_sound hT h1 h3
      obtain ⟨e', h6, h7⟩ := putE_iff h4 h1
      exact Oper.wp_value (h5 w) ⟨.inr (Grew.refl w), h7.out _ hcl' h6⟩
    case read =>
      obtain ⟨v, h4, h5⟩ := readG_sound hT h1 h3
      obtain ⟨e', h6, h7⟩ := putE_iff h4 h1
      exact Oper.wp_value (h5 w rfl) ⟨.inr (Grew.refl w), h7.out _ hcl' h6⟩
    case eff =>
      refine effG_sound hT h1 h3 fun v w' hk' => ?_
      cases hf : fin.elem i <;> rw [hf] at hk'
      · obtain ⟨e', h6, h7⟩ := putE_iff hk'.q h1
        exact ⟨.inr hk'.p, h7.out _ hcl' h6⟩
      · obtain ⟨e', h6, h7⟩ := putE_iff hk' h1
        exact ⟨.inl (by simpa using hf), h7.out _ hcl' h6⟩
  · obtain ⟨e', h6, h7⟩ := putE_iff h3 h1
    unfold wpOp
    simp only [ho', h2, Bool.false_eq_true, if_false]
    exact ⟨.inr (Grew.refl w), h7.out _ hcl' h6⟩
omit hT in
theorem DrawG.done {n : Nat} {listed : Array Bool} {e : Env} {w : World} (h : Region.ready .any ⟨all⟩ listed = []) (hk : Q .normal e w) : DrawG P T N all fin Q n listed e w := by
  refine ⟨fun a _ hr => ?_⟩
  cases n with
  | zero => exact ⟨h, e, hr, hk⟩
  | succ n => exact ⟨fun _ => ⟨e, hr, hk⟩, fun i hi => by rw [h] at hi; cases hi⟩
end
theorem SemW.drawR {P : Program} {T : Tbl} (_hT : TOk P T) {N : Nat} {all : List Oper} {Q : Exit → Env → World → Prop} {id : Nat} {e : Env} {w : World} (hm : P.follows .mixedOrders = true) (fin : List Nat) (h : DrawG P T N all fin Q all.length (Array.replicate (Array.mk all).size false) e w.drew) : StopW P N (.region id ⟨all⟩ true) Q e w :=
  ⟨fun a hr => wp_region_any hm (wpAny_of_R _ _ _ _ (h.out a (by
    intro j oj _ hl
    simp only [Array.getD_eq_getD_getElem?, Array.getElem?_replicate] at hl
    split at hl <;> simp at hl) hr))⟩
end Go.Eng

/- Regions that draw their order, with several effects: a class of worlds that all but the last keep. -/
namespace Go.Eng
open Go

section
variable {P : Program} {ops : Array Oper} {Q : Exit → Act → World → Prop} {md : Region.Mode} {S : Nat → World → World → Prop}
theorem wpAnyR_firstC {C : World → Prop} {n i : Nat} {oi : Oper} {v : Value} (hi : ops[i]? = some oi) (hsel : ∀ (j : Nat) (o : Oper) cs b, ops[j]? = some o → o.op ≠ .select cs b)
    (hQ : ∀ c a w, Q (.panic c) (a.put oi.dst v) w → Q (.panic c) a w) (hSi : ∀ w, C w → S i w w) :
    ∀ (fuel : Nat) (listed : Array Bool) (a : Act) (w : World), Closed ops listed →
      (∀ j oj, ops[j]? = some oj → j ≠ i → listed.getD j true = false → dep ops n j i = false → oi.apart ops oj = true ∧ ∀ w1 w2, C w1 → S j w1 w2 → C w2) →
      i ∈ Region.ready .any ops listed → YieldsIf P ops C oi v a → C w →
      wpAnyR P .any ops Q S fuel (listed.setIfInBounds i true) (a.put oi.dst v) w → wpAnyR P .any ops Q S (fuel + 1) listed a w := by
  intro fuel
  induction fuel with
  | zero =>
    intro listed a w _ _ hr hy hS H
    refine ⟨fun h => (by rw [h] at hr; cases hr), fun j hj => ?_⟩
    by_cases hji : j = i
    · subst hji; exact hy.wpOp hi hS ⟨hSi _ hS, H⟩
    · have := ready_mono hj hji
      rw [H.1] at this
      cases this
  | succ fuel ih =>
    intro listed a w hcl hfree hr hy hS H
    refine ⟨fun h => (by rw [h] at hr; cases hr), fun j hj => ?_⟩
    by_cases hji : j = i
    · subst hji; exact hy.wpOp hi hS ⟨hSi _ hS, H⟩
    · have h1 := H.2 j (ready_mono hj hji)
      obtain ⟨hjun, oj, hoj, hall⟩ := mem_ready.1 hj
      have hnot := ready_not_dep (n := n) hcl (mem_ready.1 hr).1 hj
      obtain ⟨hap, hkeep⟩ := hfree j oj hoj hji hjun hnot
      have h2 := wpOp_putIf hoj hap (fun cs b => hsel i oi cs b hi) (fun cs b => hsel j oj cs b hoj) hQ hy h1
      have hfree' : ∀ k ok, ops[k]? = some ok → k ≠ i → (listed.setIfInBounds j true).getD k true = false →
          dep ops n k i = false → oi.apart ops ok = true ∧ ∀ w1 w2, C w1 → S k w1 w2 → C w2 := fun k ok hk hki hun hno => by
        refine hfree k ok hk hki ?_ hno
        by_cases hjk : j = k
        · subst hjk; exact hjun
        · rw [getD_set_ne true hjk] at hun; exact hun
      refine wpOp_mono (fun a' w' h3 => ⟨h3.2.1, ih (listed.setIfInBounds j true) a' w' (hcl.set hj) hfree' (ready_mono hr (Ne.symm hji)) h3.1 (hkeep _ _ hS h3.2.1) ?_⟩) h2
      rw [Array.setIfInBounds_comm _ _ hji]
      exact h3.2.2
end
def classS (C : World → Prop) (fin : List Nat) (i : Nat) (_w w' : World) : Prop := i ∈ fin ∨ C w'
/-- What is left of a region that draws its order. -/
structure DrawK (P : Program) (T : Tbl) (N : Nat) (all : List Oper) (C : World → Prop) (fin : List Nat) (Q : Exit → Env → World → Prop) (n : Nat) (listed : Array Bool) (e : Env) (w : World) : Prop where
  out : ∀ a, Closed ⟨all⟩ listed → Rel N e a → wpAnyR P .any ⟨all⟩ (lift N Q) (classS C fin) n listed a w
def vcK (P : Program) (T : Tbl) (N : Nat) (all : List Oper) (C : World → Prop) (fin : List Nat) (Q : Exit → Env → World → Prop) (n : Nat) : List Nat → Array Bool → Env → World → Prop
  | [], listed, e, w => DrawK P T N all C fin Q n listed e w
  | i :: r, listed, e, w => atK all i fun o => grdG all o.guard e
    (fun e => match kind T o.op with
      | .pure => pureG P T e o.op fun v => putE N o.dst v e fun e' => vcK P T N all C fin Q n r (listed.setIfInBounds i true) e' w
      | .read => readG P T e C o fun v => putE N o.dst v e fun e' => vcK P T N all C fin Q n r (listed.setIfInBounds i true) e' w
      | .eff => False)
    (fun e => putE N o.dst undef e fun e' => vcK P T N all C fin Q n r (listed.setIfInBounds i true) e' w)
section
variable {P : Program} {T : Tbl} (hT : TOk P T) {N : Nat} {all : List Oper} {C : World → Prop} {fin : List Nat} {Q : Exit → Env → World → Prop}
include hT
theorem DrawK.takes (hsel : Region.noSelect ⟨all⟩ = true) (n : Nat) : ∀ (is : List Nat) {listed : Array Bool} {e : Env} {w : World} (_h : takesOK ⟨all⟩ (kind T) fin is listed = true) (_hC : C w) (_g : vcK P T N all C fin Q n is listed e w), DrawK P T N all C fin Q (n + is.length) listed e w
  | [], _, _, _, _, _, g => g
  | i :: r, listed, e, w, h, hCw, g => by
    refine ⟨fun a hcl hr => ?_⟩
    simp only [takesOK, Bool.and_eq_true] at h
    obtain ⟨h1, h2⟩ := h
    obtain ⟨o, ho, g⟩ := atK_iff g
    have ho' : (Array.mk all)[i]? = some o := by simpa using ho
    unfold takeOK at h1
    simp only [ho', Bool.and_eq_true] at h1
    obtain ⟨⟨⟨⟨hk, hrd⟩, hf⟩, hnf⟩, hw⟩ := h1
    have hready : i ∈ Region.ready .any ⟨all⟩ listed := by simpa using hrd
    have key : ∀ (v : Value) (e' : Env), YieldsIf P ⟨all⟩ C o v a → Rel N e' (a.put o.dst v) → vcK P T N all C fin Q n r (listed.setIfInBounds i true) e' w →
        wpAnyR P .any ⟨all⟩ (lift N Q) (classS C fin) (n + (i :: r).length) listed a w := by
      intro v e' hy hr' hv
      rw [List.length_cons, ← Nat.add_assoc]
      refine wpAnyR_firstC (C := C) (n := all.length) ho' (Region.noSelect_spec hsel) (fun c a w h => h.elim) (fun w hw => .inr hw) (n + r.length) listed a w hcl ?_ hready hy hCw ?_
      · intro j oj hj hne hun hd
        have hjlt : j < all.length := by have := (Array.getElem?_eq_some_iff.1 hj).1; simpa using this
        simp only [free', ho', List.all_eq_true, List.mem_range] at hf
        have h1 := hf j (by simpa using hjlt)
        have hd' : dep ⟨all⟩ (Array.mk all).size j i = false := hd
        simp only [hj, Bool.or_eq_true, beq_iff_eq, hne, false_or, hun, hd', Bool.false_eq_true] at h1
        refine ⟨h1, fun w1 w2 hw1 hw2 => ?_⟩
        rcases hw2 with hw2 | hw2
        · simp only [finWait, List.all_eq_true] at hw
          have h3 := hw j hw2
          simp only [Bool.or_eq_true, beq_iff_eq, hne, false_or, hun, hd', Bool.false_eq_true] at h3
        · exact hw2
      · exact (DrawK.takes hsel n r h2 hCw hv).out _ (hcl.set hready) hr'
    rcases grdG_iff hr g with ⟨e1, h1, h2, h3⟩ | ⟨e1, h1, h2, h3⟩
    · cases hk' : kind T o.op <;> simp only [hk'] at h3 hk
      case pure =>
        obtain ⟨v, h4, h5⟩ := pureG_sound hT h1 h3
        obtain ⟨e', h6, h7⟩ := putE_iff h4 h1
        exact key v e' (.inl ⟨h2, fun w _ => h5 w⟩) h6 h7
      case read =>
        obtain ⟨v, h4, h5⟩ := readG_sound hT h1 h3
        obtain ⟨e', h6, h7⟩ := putE_iff h4 h1
        exact key v e' (.inl ⟨h2, fun w hw => h5 w hw⟩) h6 h7
    · obtain ⟨e', h6, h7⟩ := putE_iff h3 h1
      exact key undef e' (.inr ⟨h2, rfl⟩) h6 h7
/-- Whatever may come up now. -/
theorem DrawK.alt {n : Nat} {listed : Array Bool} {e : Env} {w : World} (j : Nat) (js : List Nat) (h : Region.ready .any ⟨all⟩ listed = j :: js) (hC : C w)
    (g : allP (j :: js) fun i => atK all i fun o => grdG all o.guard e
      (fun e => match kind T o.op with
        | .pure => pureG P T e o.op fun v => putE N o.dst v e fun e' => DrawK P T N all C fin Q n (listed.setIfInBounds i true) e' w
        | .read => readG P T e C o fun v => putE N o.dst v e fun e' => DrawK P T N all C fin Q n (listed.setIfInBounds i true) e' w
        | .eff => effG P T e o w fun v w' => (match fin.elem i with
          | true => putE N o.dst v e fun e' => DrawK P T N all C fin Q n (listed.setIfInBounds i true) e' w'
          | false => Chk (C w') (putE N o.dst v e fun e' => DrawK P T N all C fin Q n (listed.setIfInBounds i true) e' w')))
      (fun e => putE N o.dst undef e fun e' => DrawK P T N all C fin Q n (listed.setIfInBounds i true) e' w)) : DrawK P T N all C fin Q (n + 1) listed e w := by
  refine ⟨fun a hcl hr => ⟨fun h0 => (by rw [h] at h0; cases h0), fun i hi => ?_⟩⟩
  have hcl' := hcl.set hi
  rw [h] at hi
  obtain ⟨o, ho, g⟩ := atK_iff (allP_mem g i hi)
  have ho' : (Array.mk all)[i]? = some o := by simpa using ho
  rcases grdG_iff hr g with ⟨e1, h1, h2, h3⟩ | ⟨e1, h1, h2, h3⟩
  · unfold wpOp
    simp only [ho', h2, if_true]
    refine .inl ?_
    cases hk : kind T o.op <;> simp only [hk] at h3
    case pure =>
      obtain ⟨v, h4, h5⟩ := pureG_sound hT h1 h3
      obtain ⟨e', h6, h7⟩ := putE_iff h4 h1
      exact Oper.wp_value (h5 w) ⟨.inr hC, h7.out _ hcl' h6⟩
    case read =>
      obtain ⟨v, h4, h5⟩ := readG_sound hT h1 h3
      obtain ⟨e', h6, h7⟩ := putE_iff h4 h1
      exact Oper.wp_value (h5 w hC) ⟨.inr hC, h7.out _ hcl' h6⟩
    case eff =>
      refine effG_sound hT h1 h3 fun v w' hk' => ?_
      cases hf : fin.elem i <;> rw [hf] at hk'
      · obtain ⟨e', h6, h7⟩ := putE_iff hk'.q h1
        exact ⟨.inr hk'.p, h7.out _ hcl' h6⟩
      · obtain ⟨e', h6, h7⟩ := putE_iff hk' h1
        exact ⟨.inl (by simpa using hf), h7.out _ hcl' h6⟩
  · obtain ⟨e', h6, h7⟩ := putE_iff h3 h1
    unfold wpOp
    simp only [ho', h2, Bool.false_eq_true, if_false]
    exact ⟨.inr hC, h7.out _ hcl' h6⟩
omit hT in
theorem DrawK.done {n : Nat} {listed : Array Bool} {e : Env} {w : World} (h : Region.ready .any ⟨all⟩ listed = []) (hk : Q .normal e w) : DrawK P T N all C fin Q n listed e w := by
  refine ⟨fun a _ hr => ?_⟩
  cases n with
  | zero => exact ⟨h, e, hr, hk⟩
  | succ n => exact ⟨fun _ => ⟨e, hr, hk⟩, fun i hi => by rw [h] at hi; cases hi⟩
end
theorem SemW.drawC {P : Program} {T : Tbl} (_hT : TOk P T) {N : Nat} {all : List Oper} {Q : Exit → Env → World → Prop} {id : Nat} {e : Env} {w : World} (hm : P.follows .mixedOrders = true) (C : World → Prop) (fin : List Nat) (h : DrawK P T N all C fin Q all.length (Array.replicate (Array.mk all).size false) e w.drew) : StopW P N (.region id ⟨all⟩ true) Q e w :=
  ⟨fun a hr => wp_region_any hm (wpAny_of_R _ _ _ _ (h.out a (by
    intro j oj _ hl
    simp only [Array.getD_eq_getD_getElem?, Array.getElem?_replicate] at hl
    split at hl <;> simp at hl) hr))⟩
/-- The ways through a piece of code meet again. -/
def mtQ (K : Env → World → Prop) : Exit → Env → World → Prop
  | .normal, e, w => K e w
  | _, _, _ => False
theorem StopW.meet {P : Program} {N : Nat} {c y : Code} {Q1 Q2 : Exit → Env → World → Prop} {e : Env} {w : World} {ι : Type} (I : ι → Env) (J : ι → World → Prop)
    (h : StopW P N c (mtQ fun e' w' => ∃ i, subG (I i) e' ∧ J i w') e w) (hy : ∀ i w', J i w' → SemW P N y Q1 (I i) w') : StopW P N c (thenQ (SemW P N y Q1) Q2) e w := by
  refine ⟨h.out.mono fun ex e' w' hq => ?_⟩
  cases ex with
  | normal =>
    obtain ⟨i, h1, h2⟩ := hq
    exact SemW.weaken h1 (hy i w' h2)
  | _ => exact hq.elim
end Go.Eng

/- tarmacref13.SameRows, tarmacref23.Same. -/
namespace Go.Proofs.YthpmmfapolcaiaaDoor
open Go Go.Eng Go.Proofs
set_option maxHeartbeats 2000000 in
theorem sameRows_spec {w : World} {a b : Option Addr} {ca cb : Nat} {rs qs : List RowM} (hr : RowsAt w a ca rs) (hq : RowsAt w b cb qs) (hl : rs.length ≤ 1099511627776) :
    Cl Tryd.prog f_tarmacref13_SameRows [.slice a rs.length ca, .slice b qs.length cb] w fun v w' => v = .bool (decide (rs = qs)) ∧ St w [] [] w' := by
  have hS := St.start w
  refine en_tarmacref13_SameRows rfl ?_
  by_cases hlen : rs.length = qs.length
  · repeat (first | refine SemW.run tblOk ?_ | refine IntG.nw (by omega) ?_ | refine IntG.nu8 (by omega) ?_ | refine IntG.nu32 (by omega) ?_ | refine IntG.nu64 (by omega) ?_ | refine IntG.wr' rfl ?_ | refine Chk.mk (by omega) ?_ | (refine BrG.id ?_; first | with_reducible refine BrG.t ?_ | with_reducible refine BrG.f ?_ | with_reducible refine BrG.notG ?_ | with_reducible refine BrG.nn ?_ | with_reducible refine BrG.ns ?_ | refine BrG.pos (by omega) ?_ | refine BrG.neg (by omega) ?_ | with_reducible refine BrG.pos rfl ?_ | refine BrG.pos (by assumption) ?_ | refine BrG.neg (by assumption) ?_ | refine BrG.pos (by decide) ?_ | refine BrG.neg (by decide) ?_) | refine Chk.mk (ptr_ok tblOk rfl rfl) ?_ | refine NilG.mk (fun _ => by kernel_rfl) ?_ | refine Chk.mk (by decide) ?_)
    refine SemW.loop (fun k : Nat => [(0, .slice a rs.length ca), (1, .slice b qs.length cb), (12, .int .i64 rs.length), (13, .int .i64 k)])
      (fun k w' => (k ≤ rs.length ∧ rs.take k = qs.take k) ∧ St w [] [] w') (fun k => rs.length - k) 0
      ⟨rfl, rfl, rfl, rfl, trivial⟩ ⟨⟨Nat.zero_le _, rfl⟩, hS⟩ ?_
    clear hS
    rintro k w1 ⟨⟨hk, hno⟩, hS⟩
    by_cases hkl : k < rs.length
    · have hkq : k < qs.length := by omega
      obtain ⟨g, off, rfl⟩ := hr.pos (by omega)
      obtain ⟨g', off', rfl⟩ := hq.pos (by omega)
      have hat := flatRow_take rs k hkl
      have haq := flatRow_take qs k hkq
      have hsr := List.take_succ_eq_append_getElem hkl
      have hsq := List.take_succ_eq_append_getElem hkq
      have hne : ¬ rs[k] = qs[k] → ¬ rs = qs := fun h e => h (by subst e; rfl)
      generalize rs[k] = x at hat hsr hne
      generalize qs[k] = y at haq hsq hne
      repeat (first | refine SemW.run tblOk ?_ | refine IntG.nw (by omega) ?_ | refine IntG.nu8 (by omega) ?_ | refine IntG.nu32 (by omega) ?_ | refine IntG.nu64 (by omega) ?_ | refine IntG.wr' rfl ?_ | refine Chk.mk (by omega) ?_ | (refine BrG.id ?_; first | with_reducible refine BrG.t ?_ | with_reducible refine BrG.f ?_ | with_reducible refine BrG.notG ?_ | with_reducible refine BrG.nn ?_ | with_reducible refine BrG.ns ?_ | refine BrG.pos (by omega) ?_ | refine BrG.neg (by omega) ?_ | with_reducible refine BrG.pos rfl ?_ | refine BrG.pos (by assumption) ?_ | refine BrG.neg (by assumption) ?_ | refine BrG.pos (by decide) ?_ | refine BrG.neg (by decide) ?_) | refine Chk.mk (ptr_ok tblOk rfl rfl) ?_ | refine NilG.mk (fun _ => by kernel_rfl) ?_ | refine Chk.mk (by decide) ?_)
      refine SemW.draw tblOk mixed (fun w' => St w [] [] w') [] [0, 1, 2, 3, 4, 5, 6, 7, 8] (by kernel_rfl) hS.drew ?_
      have hS := hS.drew
      repeat (first | refine SemW.run tblOk ?_ | refine IntG.nw (by omega) ?_ | refine IntG.nu8 (by omega) ?_ | refine IntG.nu32 (by omega) ?_ | refine IntG.nu64 (by omega) ?_ | refine IntG.wr' rfl ?_ | refine Chk.mk (by omega) ?_ | (refine BrG.id ?_; first | with_reducible refine BrG.t ?_ | with_reducible refine BrG.f ?_ | with_reducible refine BrG.notG ?_ | with_reducible refine BrG.nn ?_ | with_reducible refine BrG.ns ?_ | refine BrG.pos (by omega) ?_ | refine BrG.neg (by omega) ?_ | with_reducible refine BrG.pos rfl ?_ | refine BrG.pos (by assumption) ?_ | refine BrG.neg (by assumption) ?_ | refine BrG.pos (by decide) ?_ | refine BrG.neg (by decide) ?_) | refine Chk.mk (ptr_ok tblOk rfl rfl) ?_ | refine NilG.mk (fun _ => by kernel_rfl) ?_ | refine Chk.mk (by decide) ?_ | refine hS.ldC rfl ?_ | refine hS.ldnC rfl ?_)
      refine Arr.ldnC hr.arr (k := k * 5) hat rfl rfl ?_
      repeat (first | refine SemW.run tblOk ?_ | refine IntG.nw (by omega) ?_ | refine IntG.nu8 (by omega) ?_ | refine IntG.nu32 (by omega) ?_ | refine IntG.nu64 (by omega) ?_ | refine IntG.wr' rfl ?_ | refine Chk.mk (by omega) ?_ | (refine BrG.id ?_; first | with_reducible refine BrG.t ?_ | with_reducible refine BrG.f ?_ | with_reducible refine BrG.notG ?_ | with_reducible refine BrG.nn ?_ | with_reducible refine BrG.ns ?_ | refine BrG.pos (by omega) ?_ | refine BrG.neg (by omega) ?_ | with_reducible refine BrG.pos rfl ?_ | refine BrG.pos (by assumption) ?_ | refine BrG.neg (by assumption) ?_ | refine BrG.pos (by decide) ?_ | refine BrG.neg (by decide) ?_) | refine Chk.mk (ptr_ok tblOk rfl rfl) ?_ | refine NilG.mk (fun _ => by kernel_rfl) ?_ | refine Chk.mk (by decide) ?_ | refine hS.ldC rfl ?_ | refine hS.ldnC rfl ?_)
      refine Arr.ldnC hq.arr (k := k * 5) haq rfl rfl ?_
      repeat (first | refine SemW.run tblOk ?_ | refine IntG.nw (by omega) ?_ | refine IntG.nu8 (by omega) ?_ | refine IntG.nu32 (by omega) ?_ | refine IntG.nu64 (by omega) ?_ | refine IntG.wr' rfl ?_ | refine Chk.mk (by omega) ?_ | (refine BrG.id ?_; first | with_reducible refine BrG.t ?_ | with_reducible refine BrG.f ?_ | with_reducible refine BrG.notG ?_ | with_reducible refine BrG.nn ?_ | with_reducible refine BrG.ns ?_ | refine BrG.pos (by omega) ?_ | refine BrG.neg (by omega) ?_ | with_reducible refine BrG.pos rfl ?_ | refine BrG.pos (by assumption) ?_ | refine BrG.neg (by assumption) ?_ | refine BrG.pos (by decide) ?_ | refine BrG.neg (by decide) ?_) | refine Chk.mk (ptr_ok tblOk rfl rfl) ?_ | refine NilG.mk (fun _ => by kernel_rfl) ?_ | refine Chk.mk (by decide) ?_ | refine hS.ldC rfl ?_ | refine hS.ldnC rfl ?_)
      refine neqAgg (n := 2) (by omega) (by kernel_rfl) (eqRow x y) ?_
      by_cases hxy : x = y
      · rw [decide_eq_true hxy, Bool.not_true]
        repeat (first | refine SemW.run tblOk ?_ | refine IntG.nw (by omega) ?_ | refine IntG.nu8 (by omega) ?_ | refine IntG.nu32 (by omega) ?_ | refine IntG.nu64 (by omega) ?_ | refine IntG.wr' rfl ?_ | refine Chk.mk (by omega) ?_ | (refine BrG.id ?_; first | with_reducible refine BrG.t ?_ | with_reducible refine BrG.f ?_ | with_reducible refine BrG.notG ?_ | with_reducible refine BrG.nn ?_ | with_reducible refine BrG.ns ?_ | refine BrG.pos (by omega) ?_ | refine BrG.neg (by omega) ?_ | with_reducible refine BrG.pos rfl ?_ | refine BrG.pos (by assumption) ?_ | refine BrG.neg (by assumption) ?_ | refine BrG.pos (by decide) ?_ | refine BrG.neg (by decide) ?_) | refine Chk.mk (ptr_ok tblOk rfl rfl) ?_ | refine NilG.mk (fun _ => by kernel_rfl) ?_ | refine Chk.mk (by decide) ?_ | refine hS.ldC rfl ?_ | refine hS.ldnC rfl ?_)
        exact ⟨k + 1, ⟨rfl, rfl, rfl, rfl, trivial⟩, ⟨⟨by omega, by rw [hsr, hsq, hno, hxy]⟩, hS⟩, by omega⟩
      · rw [decide_eq_false hxy, Bool.not_false]
        repeat (first | refine SemW.run tblOk ?_ | refine IntG.nw (by omega) ?_ | refine IntG.nu8 (by omega) ?_ | refine IntG.nu32 (by omega) ?_ | refine IntG.nu64 (by omega) ?_ | refine IntG.wr' rfl ?_ | refine Chk.mk (by omega) ?_ | (refine BrG.id ?_; first | with_reducible refine BrG.t ?_ | with_reducible refine BrG.f ?_ | with_reducible refine BrG.notG ?_ | with_reducible refine BrG.nn ?_ | with_reducible refine BrG.ns ?_ | refine BrG.pos (by omega) ?_ | refine BrG.neg (by omega) ?_ | with_reducible refine BrG.pos rfl ?_ | refine BrG.pos (by assumption) ?_ | refine BrG.neg (by assumption) ?_ | refine BrG.pos (by decide) ?_ | refine BrG.neg (by decide) ?_) | refine Chk.mk (ptr_ok tblOk rfl rfl) ?_ | refine NilG.mk (fun _ => by kernel_rfl) ?_ | refine Chk.mk (by decide) ?_ | refine hS.ldC rfl ?_ | refine hS.ldnC rfl ?_)
        exact ⟨by rw [decide_eq_false (hne hxy)], hS⟩
    · have hke : k = rs.length := by omega
      rw [hke, List.take_length, hlen, List.take_length] at hno
      repeat (first | refine SemW.run tblOk ?_ | refine IntG.nw (by omega) ?_ | refine IntG.nu8 (by omega) ?_ | refine IntG.nu32 (by omega) ?_ | refine IntG.nu64 (by omega) ?_ | refine IntG.wr' rfl ?_ | refine Chk.mk (by omega) ?_ | (refine BrG.id ?_; first | with_reducible refine BrG.t ?_ | with_reducible refine BrG.f ?_ | with_reducible refine BrG.notG ?_ | with_reducible refine BrG.nn ?_ | with_reducible refine BrG.ns ?_ | refine BrG.pos (by omega) ?_ | refine BrG.neg (by omega) ?_ | with_reducible refine BrG.pos rfl ?_ | refine BrG.pos (by assumption) ?_ | refine BrG.neg (by assumption) ?_ | refine BrG.pos (by decide) ?_ | refine BrG.neg (by decide) ?_) | refine Chk.mk (ptr_ok tblOk rfl rfl) ?_ | refine NilG.mk (fun _ => by kernel_rfl) ?_ | refine Chk.mk (by decide) ?_)
      exact ⟨by rw [decide_eq_true hno], hS⟩
  · repeat (first | refine SemW.run tblOk ?_ | refine IntG.nw (by omega) ?_ | refine IntG.nu8 (by omega) ?_ | refine IntG.nu32 (by omega) ?_ | refine IntG.nu64 (by omega) ?_ | refine IntG.wr' rfl ?_ | refine Chk.mk (by omega) ?_ | (refine BrG.id ?_; first | with_reducible refine BrG.t ?_ | with_reducible refine BrG.f ?_ | with_reducible refine BrG.notG ?_ | with_reducible refine BrG.nn ?_ | with_reducible refine BrG.ns ?_ | refine BrG.pos (by omega) ?_ | refine BrG.neg (by omega) ?_ | with_reducible refine BrG.pos rfl ?_ | refine BrG.pos (by assumption) ?_ | refine BrG.neg (by assumption) ?_ | refine BrG.pos (by decide) ?_ | refine BrG.neg (by decide) ?_) | refine Chk.mk (ptr_ok tblOk rfl rfl) ?_ | refine NilG.mk (fun _ => by kernel_rfl) ?_ | refine Chk.mk (by decide) ?_)
    exact ⟨by rw [decide_eq_false (fun e => hlen (by rw [e]))], hS⟩
abbrev cmdO29 (c : CmdM) (a : Option Addr) (cap : Nat) : Obj := .cells ⟨cmdC c a cap⟩ T_api_Command (0, 0)
set_option maxRecDepth 4000 in
set_option maxHeartbeats 8000000 in
theorem Same23_spec {w : World} {x y : CmdM} {a b : Option Addr} {ca cb : Nat} (h : TwoCmd w x y a b ca cb) :
    Cl Tryd.prog f_tarmacref23_Same [cmdV x a ca, cmdV y b cb] w fun v w' => v = .bool (decide (x = y)) ∧ St w [] [] w' := by
  have hS := St.start w
  rw [same_eq]
  unfold sameR
  refine en_tarmacref23_Same rfl ?_
  repeat (first | refine SemW.run tblOk ?_ | refine IntG.nw (by omega) ?_ | refine IntG.nu8 (by omega) ?_ | refine IntG.nu32 (by omega) ?_ | refine IntG.nu64 (by omega) ?_ | refine IntG.wr' rfl ?_ | refine Chk.mk (by omega) ?_ | (refine BrG.id ?_; first | with_reducible refine BrG.t ?_ | with_reducible refine BrG.f ?_ | with_reducible refine BrG.notG ?_ | with_reducible refine BrG.nn ?_ | with_reducible refine BrG.ns ?_ | refine BrG.pos (by omega) ?_ | refine BrG.neg (by omega) ?_ | with_reducible refine BrG.pos rfl ?_ | refine BrG.pos (by assumption) ?_ | refine BrG.neg (by assumption) ?_ | refine BrG.pos (by decide) ?_ | refine BrG.neg (by decide) ?_) | refine Chk.mk (ptr_ok tblOk rfl rfl) ?_ | refine NilG.mk (fun _ => by kernel_rfl) ?_ | refine Chk.mk (by decide) ?_)
  refine hS.al ?_
  intro b1 w1 _ hS
  repeat (first | refine SemW.run tblOk ?_ | refine IntG.nw (by omega) ?_ | refine IntG.nu8 (by omega) ?_ | refine IntG.nu32 (by omega) ?_ | refine IntG.nu64 (by omega) ?_ | refine IntG.wr' rfl ?_ | refine Chk.mk (by omega) ?_ | (refine BrG.id ?_; first | with_reducible refine BrG.t ?_ | with_reducible refine BrG.f ?_ | with_reducible refine BrG.notG ?_ | with_reducible refine BrG.nn ?_ | with_reducible refine BrG.ns ?_ | refine BrG.pos (by omega) ?_ | refine BrG.neg (by omega) ?_ | with_reducible refine BrG.pos rfl ?_ | refine BrG.pos (by assumption) ?_ | refine BrG.neg (by assumption) ?_ | refine BrG.pos (by decide) ?_ | refine BrG.neg (by decide) ?_) | refine Chk.mk (ptr_ok tblOk rfl rfl) ?_ | refine NilG.mk (fun _ => by kernel_rfl) ?_ | refine Chk.mk (by decide) ?_)
  refine hS.al ?_
  intro b2 w2 _ hS
  repeat (first | refine SemW.run tblOk ?_ | refine IntG.nw (by omega) ?_ | refine IntG.nu8 (by omega) ?_ | refine IntG.nu32 (by omega) ?_ | refine IntG.nu64 (by omega) ?_ | refine IntG.wr' rfl ?_ | refine Chk.mk (by omega) ?_ | (refine BrG.id ?_; first | with_reducible refine BrG.t ?_ | with_reducible refine BrG.f ?_ | with_reducible refine BrG.notG ?_ | with_reducible refine BrG.nn ?_ | with_reducible refine BrG.ns ?_ | refine BrG.pos (by omega) ?_ | refine BrG.neg (by omega) ?_ | with_reducible refine BrG.pos rfl ?_ | refine BrG.pos (by assumption) ?_ | refine BrG.neg (by assumption) ?_ | refine BrG.pos (by decide) ?_ | refine BrG.neg (by decide) ?_) | refine Chk.mk (ptr_ok tblOk rfl rfl) ?_ | refine NilG.mk (fun _ => by kernel_rfl) ?_ | refine Chk.mk (by decide) ?_ | refine hS.ld rfl ?_ | refine hS.ldn rfl ?_ | (refine hS.st rfl rfl ?_; intro _ hS))
  refine StopW.meet (fun z : Nat × Nat => [(5, ptr z.1), (6, ptr z.2)]) (fun z w' => St w [] [(z.1, cmdO29 x a ca), (z.2, cmdO29 y b cb)] w') ?_ ?_
  · refine SemW.drawC tblOk mixed (fun w' => St w [] [(b2, cmdO29 y b cb), (b1, cmdO29 x a ca)] w') [] ?_
    have hS := hS.drew
    have hS : St w [] [(b2, cmdO29 y b cb), (b1, cmdO29 x a ca)] _ := hS
    refine DrawK.takes tblOk (by kernel_rfl) 4 [0, 1] (by kernel_rfl) hS ?_
    repeat (first | refine SemW.run tblOk ?_ | refine IntG.nw (by omega) ?_ | refine IntG.nu8 (by omega) ?_ | refine IntG.nu32 (by omega) ?_ | refine IntG.nu64 (by omega) ?_ | refine IntG.wr' rfl ?_ | refine Chk.mk (by omega) ?_ | (refine BrG.id ?_; first | with_reducible refine BrG.t ?_ | with_reducible refine BrG.f ?_ | with_reducible refine BrG.notG ?_ | with_reducible refine BrG.nn ?_ | with_reducible refine BrG.ns ?_ | refine BrG.pos (by omega) ?_ | refine BrG.neg (by omega) ?_ | with_reducible refine BrG.pos rfl ?_ | refine BrG.pos (by assumption) ?_ | refine BrG.neg (by assumption) ?_ | refine BrG.pos (by decide) ?_ | refine BrG.neg (by decide) ?_) | refine Chk.mk (ptr_ok tblOk rfl rfl) ?_ | refine NilG.mk (fun _ => by kernel_rfl) ?_ | refine Chk.mk (by decide) ?_ | refine hS.ldC rfl ?_ | refine hS.ldnC rfl ?_)
    refine DrawK.alt tblOk 2 [3] (by kernel_rfl) hS ⟨?_, ?_, trivial⟩
    · refine hS.al ?_
      intro b3 w3 _ hS
      refine Chk.mk (hS.sub (List.sublist_cons_self _ _)) ?_
      refine DrawK.alt tblOk 3 [] (by kernel_rfl) (hS.sub (List.sublist_cons_self _ _)) ⟨?_, trivial⟩
      refine hS.al ?_
      intro b4 w4 _ hS
      refine Chk.mk (hS.sub ((List.sublist_cons_self _ _).trans (List.sublist_cons_self _ _))) ?_
      refine DrawK.alt tblOk 4 [] (by kernel_rfl) (hS.sub ((List.sublist_cons_self _ _).trans (List.sublist_cons_self _ _))) ⟨?_, trivial⟩
      repeat (first | refine SemW.run tblOk ?_ | refine IntG.nw (by omega) ?_ | refine IntG.nu8 (by omega) ?_ | refine IntG.nu32 (by omega) ?_ | refine IntG.nu64 (by omega) ?_ | refine IntG.wr' rfl ?_ | refine Chk.mk (by omega) ?_ | (refine BrG.id ?_; first | with_reducible refine BrG.t ?_ | with_reducible refine BrG.f ?_ | with_reducible refine BrG.notG ?_ | with_reducible refine BrG.nn ?_ | with_reducible refine BrG.ns ?_ | refine BrG.pos (by omega) ?_ | refine BrG.neg (by omega) ?_ | with_reducible refine BrG.pos rfl ?_ | refine BrG.pos (by assumption) ?_ | refine BrG.neg (by assumption) ?_ | refine BrG.pos (by decide) ?_ | refine BrG.neg (by decide) ?_) | refine Chk.mk (ptr_ok tblOk rfl rfl) ?_ | refine NilG.mk (fun _ => by kernel_rfl) ?_ | refine Chk.mk (by decide) ?_ | refine hS.ld rfl ?_ | refine hS.ldn rfl ?_ | (refine hS.st rfl rfl ?_; intro _ hS))
      refine Chk.mk (hS.sub ((List.sublist_cons_self _ _).trans (List.sublist_cons_self _ _))) ?_
      refine DrawK.alt tblOk 5 [] (by kernel_rfl) (hS.sub ((List.sublist_cons_self _ _).trans (List.sublist_cons_self _ _))) ⟨?_, trivial⟩
      repeat (first | refine SemW.run tblOk ?_ | refine IntG.nw (by omega) ?_ | refine IntG.nu8 (by omega) ?_ | refine IntG.nu32 (by omega) ?_ | refine IntG.nu64 (by omega) ?_ | refine IntG.wr' rfl ?_ | refine Chk.mk (by omega) ?_ | (refine BrG.id ?_; first | with_reducible refine BrG.t ?_ | with_reducible refine BrG.f ?_ | with_reducible refine BrG.notG ?_ | with_reducible refine BrG.nn ?_ | with_reducible refine BrG.ns ?_ | refine BrG.pos (by omega) ?_ | refine BrG.neg (by omega) ?_ | with_reducible refine BrG.pos rfl ?_ | refine BrG.pos (by assumption) ?_ | refine BrG.neg (by assumption) ?_ | refine BrG.pos (by decide) ?_ | refine BrG.neg (by decide) ?_) | refine Chk.mk (ptr_ok tblOk rfl rfl) ?_ | refine NilG.mk (fun _ => by kernel_rfl) ?_ | refine Chk.mk (by decide) ?_ | refine hS.ld rfl ?_ | refine hS.ldn rfl ?_ | (refine hS.st rfl rfl ?_; intro _ hS))
      refine Chk.mk (hS.sub ((List.sublist_cons_self _ _).trans (List.sublist_cons_self _ _))) ?_
      refine DrawK.done (by kernel_rfl) ?_
      exact ⟨(b3, b4), ⟨rfl, rfl, trivial⟩, (hS.sub (List.Sublist.cons_cons _ (List.Sublist.cons_cons _ (List.nil_sublist _)))).perm (List.Perm.swap _ _ _)⟩
    · refine hS.al ?_
      intro b4 w3 _ hS
      refine Chk.mk (hS.sub (List.sublist_cons_self _ _)) ?_
      refine DrawK.alt tblOk 2 [] (by kernel_rfl) (hS.sub (List.sublist_cons_self _ _)) ⟨?_, trivial⟩
      refine hS.al ?_
      intro b3 w4 _ hS
      refine Chk.mk (hS.sub ((List.sublist_cons_self _ _).trans (List.sublist_cons_self _ _))) ?_
      refine DrawK.alt tblOk 4 [] (by kernel_rfl) (hS.sub ((List.sublist_cons_self _ _).trans (List.sublist_cons_self _ _))) ⟨?_, trivial⟩
      repeat (first | refine SemW.run tblOk ?_ | refine IntG.nw (by omega) ?_ | refine IntG.nu8 (by omega) ?_ | refine IntG.nu32 (by omega) ?_ | refine IntG.nu64 (by omega) ?_ | refine IntG.wr' rfl ?_ | refine Chk.mk (by omega) ?_ | (refine BrG.id ?_; first | with_reducible refine BrG.t ?_ | with_reducible refine BrG.f ?_ | with_reducible refine BrG.notG ?_ | with_reducible refine BrG.nn ?_ | with_reducible refine BrG.ns ?_ | refine BrG.pos (by omega) ?_ | refine BrG.neg (by omega) ?_ | with_reducible refine BrG.pos rfl ?_ | refine BrG.pos (by assumption) ?_ | refine BrG.neg (by assumption) ?_ | refine BrG.pos (by decide) ?_ | refine BrG.neg (by decide) ?_) | refine Chk.mk (ptr_ok tblOk rfl rfl) ?_ | refine NilG.mk (fun _ => by kernel_rfl) ?_ | refine Chk.mk (by decide) ?_ | refine hS.ld rfl ?_ | refine hS.ldn rfl ?_ | (refine hS.st rfl rfl ?_; intro _ hS))
      refine Chk.mk (hS.sub ((List.sublist_cons_self _ _).trans (List.sublist_cons_self _ _))) ?_
      refine DrawK.alt tblOk 5 [] (by kernel_rfl) (hS.sub ((List.sublist_cons_self _ _).trans (List.sublist_cons_self _ _))) ⟨?_, trivial⟩
      repeat (first | refine SemW.run tblOk ?_ | refine IntG.nw (by omega) ?_ | refine IntG.nu8 (by omega) ?_ | refine IntG.nu32 (by omega) ?_ | refine IntG.nu64 (by omega) ?_ | refine IntG.wr' rfl ?_ | refine Chk.mk (by omega) ?_ | (refine BrG.id ?_; first | with_reducible refine BrG.t ?_ | with_reducible refine BrG.f ?_ | with_reducible refine BrG.notG ?_ | with_reducible refine BrG.nn ?_ | with_reducible refine BrG.ns ?_ | refine BrG.pos (by omega) ?_ | refine BrG.neg (by omega) ?_ | with_reducible refine BrG.pos rfl ?_ | refine BrG.pos (by assumption) ?_ | refine BrG.neg (by assumption) ?_ | refine BrG.pos (by decide) ?_ | refine BrG.neg (by decide) ?_) | refine Chk.mk (ptr_ok tblOk rfl rfl) ?_ | refine NilG.mk (fun _ => by kernel_rfl) ?_ | refine Chk.mk (by decide) ?_ | refine hS.ld rfl ?_ | refine hS.ldn rfl ?_ | (refine hS.st rfl rfl ?_; intro _ hS))
      refine Chk.mk (hS.sub ((List.sublist_cons_self _ _).trans (List.sublist_cons_self _ _))) ?_
      refine DrawK.done (by kernel_rfl) ?_
      exact ⟨(b3, b4), ⟨rfl, rfl, trivial⟩, hS.sub (List.Sublist.cons_cons _ (List.Sublist.cons_cons _ (List.nil_sublist _)))⟩
  clear hS
  rintro ⟨b3, b4⟩ w5 hS
  simp only at hS
  repeat (first | refine SemW.run tblOk ?_ | refine IntG.nw (by omega) ?_ | refine IntG.nu8 (by omega) ?_ | refine IntG.nu32 (by omega) ?_ | refine IntG.nu64 (by omega) ?_ | refine IntG.wr' rfl ?_ | refine Chk.mk (by omega) ?_ | (refine BrG.id ?_; first | with_reducible refine BrG.t ?_ | with_reducible refine BrG.f ?_ | with_reducible refine BrG.notG ?_ | with_reducible refine BrG.nn ?_ | with_reducible refine BrG.ns ?_ | refine BrG.pos (by omega) ?_ | refine BrG.neg (by omega) ?_ | with_reducible refine BrG.pos rfl ?_ | refine BrG.pos (by assumption) ?_ | refine BrG.neg (by assumption) ?_ | refine BrG.pos (by decide) ?_ | refine BrG.neg (by decide) ?_) | refine Chk.mk (ptr_ok tblOk rfl rfl) ?_ | refine NilG.mk (fun _ => by kernel_rfl) ?_ | refine Chk.mk (by decide) ?_ | refine hS.ld rfl ?_ | refine hS.ldn rfl ?_ | (refine hS.st rfl rfl ?_; intro _ hS))
  refine (sameRows_spec (h.hx.keep hS.nil) (h.hy.keep hS.nil) h.len).mono ?_
  rintro _ w3 ⟨rfl, hS'⟩
  have hS := hS.call0 hS'
  repeat (first | refine SemW.run tblOk ?_ | refine IntG.nw (by omega) ?_ | refine IntG.nu8 (by omega) ?_ | refine IntG.nu32 (by omega) ?_ | refine IntG.nu64 (by omega) ?_ | refine IntG.wr' rfl ?_ | refine Chk.mk (by omega) ?_ | (refine BrG.id ?_; first | with_reducible refine BrG.t ?_ | with_reducible refine BrG.f ?_ | with_reducible refine BrG.notG ?_ | with_reducible refine BrG.nn ?_ | with_reducible refine BrG.ns ?_ | refine BrG.pos (by omega) ?_ | refine BrG.neg (by omega) ?_ | with_reducible refine BrG.pos rfl ?_ | refine BrG.pos (by assumption) ?_ | refine BrG.neg (by assumption) ?_ | refine BrG.pos (by decide) ?_ | refine BrG.neg (by decide) ?_) | refine Chk.mk (ptr_ok tblOk rfl rfl) ?_ | refine NilG.mk (fun _ => by kernel_rfl) ?_ | refine Chk.mk (by decide) ?_ | refine hS.ld rfl ?_ | refine hS.ldn rfl ?_ | (refine hS.st rfl rfl ?_; intro _ hS))
  refine BrG.id ?_
  generalize decide (x.rows = y.rows) = bb
  cases bb
  · repeat (first | refine SemW.run tblOk ?_ | refine IntG.nw (by omega) ?_ | refine IntG.nu8 (by omega) ?_ | refine IntG.nu32 (by omega) ?_ | refine IntG.nu64 (by omega) ?_ | refine IntG.wr' rfl ?_ | refine Chk.mk (by omega) ?_ | (refine BrG.id ?_; first | with_reducible refine BrG.t ?_ | with_reducible refine BrG.f ?_ | with_reducible refine BrG.notG ?_ | with_reducible refine BrG.nn ?_ | with_reducible refine BrG.ns ?_ | refine BrG.pos (by omega) ?_ | refine BrG.neg (by omega) ?_ | with_reducible refine BrG.pos rfl ?_ | refine BrG.pos (by assumption) ?_ | refine BrG.neg (by assumption) ?_ | refine BrG.pos (by decide) ?_ | refine BrG.neg (by decide) ?_) | refine Chk.mk (ptr_ok tblOk rfl rfl) ?_ | refine NilG.mk (fun _ => by kernel_rfl) ?_ | refine Chk.mk (by decide) ?_ | refine hS.ld rfl ?_ | refine hS.ldn rfl ?_ | (refine hS.st rfl rfl ?_; intro _ hS))
    exact ⟨rfl, hS.nil⟩
  repeat (first | refine SemW.run tblOk ?_ | refine IntG.nw (by omega) ?_ | refine IntG.nu8 (by omega) ?_ | refine IntG.nu32 (by omega) ?_ | refine IntG.nu64 (by omega) ?_ | refine IntG.wr' rfl ?_ | refine Chk.mk (by omega) ?_ | (refine BrG.id ?_; first | with_reducible refine BrG.t ?_ | with_reducible refine BrG.f ?_ | with_reducible refine BrG.notG ?_ | with_reducible refine BrG.nn ?_ | with_reducible refine BrG.ns ?_ | refine BrG.pos (by omega) ?_ | refine BrG.neg (by omega) ?_ | with_reducible refine BrG.pos rfl ?_ | refine BrG.pos (by assumption) ?_ | refine BrG.neg (by assumption) ?_ | refine BrG.pos (by decide) ?_ | refine BrG.neg (by decide) ?_) | refine Chk.mk (ptr_ok tblOk rfl rfl) ?_ | refine NilG.mk (fun _ => by kernel_rfl) ?_ | refine Chk.mk (by decide) ?_ | refine hS.ld rfl ?_ | refine hS.ldn rfl ?_ | (refine hS.st rfl rfl ?_; intro _ hS))
  refine BrG.id ?_
  generalize decide (x.kind = y.kind) = bb
  cases bb
  · repeat (first | refine SemW.run tblOk ?_ | refine IntG.nw (by omega) ?_ | refine IntG.nu8 (by omega) ?_ | refine IntG.nu32 (by omega) ?_ | refine IntG.nu64 (by omega) ?_ | refine IntG.wr' rfl ?_ | refine Chk.mk (by omega) ?_ | (refine BrG.id ?_; first | with_reducible refine BrG.t ?_ | with_reducible refine BrG.f ?_ | with_reducible refine BrG.notG ?_ | with_reducible refine BrG.nn ?_ | with_reducible refine BrG.ns ?_ | refine BrG.pos (by omega) ?_ | refine BrG.neg (by omega) ?_ | with_reducible refine BrG.pos rfl ?_ | refine BrG.pos (by assumption) ?_ | refine BrG.neg (by assumption) ?_ | refine BrG.pos (by decide) ?_ | refine BrG.neg (by decide) ?_) | refine Chk.mk (ptr_ok tblOk rfl rfl) ?_ | refine NilG.mk (fun _ => by kernel_rfl) ?_ | refine Chk.mk (by decide) ?_ | refine hS.ld rfl ?_ | refine hS.ldn rfl ?_ | (refine hS.st rfl rfl ?_; intro _ hS))
    exact ⟨rfl, hS.nil⟩
  repeat (first | refine SemW.run tblOk ?_ | refine IntG.nw (by omega) ?_ | refine IntG.nu8 (by omega) ?_ | refine IntG.nu32 (by omega) ?_ | refine IntG.nu64 (by omega) ?_ | refine IntG.wr' rfl ?_ | refine Chk.mk (by omega) ?_ | (refine BrG.id ?_; first | with_reducible refine BrG.t ?_ | with_reducible refine BrG.f ?_ | with_reducible refine BrG.notG ?_ | with_reducible refine BrG.nn ?_ | with_reducible refine BrG.ns ?_ | refine BrG.pos (by omega) ?_ | refine BrG.neg (by omega) ?_ | with_reducible refine BrG.pos rfl ?_ | refine BrG.pos (by assumption) ?_ | refine BrG.neg (by assumption) ?_ | refine BrG.pos (by decide) ?_ | refine BrG.neg (by decide) ?_) | refine Chk.mk (ptr_ok tblOk rfl rfl) ?_ | refine NilG.mk (fun _ => by kernel_rfl) ?_ | refine Chk.mk (by decide) ?_ | refine hS.ld rfl ?_ | refine hS.ldn rfl ?_ | (refine hS.st rfl rfl ?_; intro _ hS))
  refine BrG.id ?_
  generalize decide (x.req = y.req) = bb
  cases bb
  · repeat (first | refine SemW.run tblOk ?_ | refine IntG.nw (by omega) ?_ | refine IntG.nu8 (by omega) ?_ | refine IntG.nu32 (by omega) ?_ | refine IntG.nu64 (by omega) ?_ | refine IntG.wr' rfl ?_ | refine Chk.mk (by omega) ?_ | (refine BrG.id ?_; first | with_reducible refine BrG.t ?_ | with_reducible refine BrG.f ?_ | with_reducible refine BrG.notG ?_ | with_reducible refine BrG.nn ?_ | with_reducible refine BrG.ns ?_ | refine BrG.pos (by omega) ?_ | refine BrG.neg (by omega) ?_ | with_reducible refine BrG.pos rfl ?_ | refine BrG.pos (by assumption) ?_ | refine BrG.neg (by assumption) ?_ | refine BrG.pos (by decide) ?_ | refine BrG.neg (by decide) ?_) | refine Chk.mk (ptr_ok tblOk rfl rfl) ?_ | refine NilG.mk (fun _ => by kernel_rfl) ?_ | refine Chk.mk (by decide) ?_ | refine hS.ld rfl ?_ | refine hS.ldn rfl ?_ | (refine hS.st rfl rfl ?_; intro _ hS))
    exact ⟨rfl, hS.nil⟩
  repeat (first | refine SemW.run tblOk ?_ | refine IntG.nw (by omega) ?_ | refine IntG.nu8 (by omega) ?_ | refine IntG.nu32 (by omega) ?_ | refine IntG.nu64 (by omega) ?_ | refine IntG.wr' rfl ?_ | refine Chk.mk (by omega) ?_ | (refine BrG.id ?_; first | with_reducible refine BrG.t ?_ | with_reducible refine BrG.f ?_ | with_reducible refine BrG.notG ?_ | with_reducible refine BrG.nn ?_ | with_reducible refine BrG.ns ?_ | refine BrG.pos (by omega) ?_ | refine BrG.neg (by omega) ?_ | with_reducible refine BrG.pos rfl ?_ | refine BrG.pos (by assumption) ?_ | refine BrG.neg (by assumption) ?_ | refine BrG.pos (by decide) ?_ | refine BrG.neg (by decide) ?_) | refine Chk.mk (ptr_ok tblOk rfl rfl) ?_ | refine NilG.mk (fun _ => by kernel_rfl) ?_ | refine Chk.mk (by decide) ?_ | refine hS.ld rfl ?_ | refine hS.ldn rfl ?_ | (refine hS.st rfl rfl ?_; intro _ hS))
  refine BrG.id ?_
  generalize decide (x.id = y.id) = bb
  cases bb
  · repeat (first | refine SemW.run tblOk ?_ | refine IntG.nw (by omega) ?_ | refine IntG.nu8 (by omega) ?_ | refine IntG.nu32 (by omega) ?_ | refine IntG.nu64 (by omega) ?_ | refine IntG.wr' rfl ?_ | refine Chk.mk (by omega) ?_ | (refine BrG.id ?_; first | with_reducible refine BrG.t ?_ | with_reducible refine BrG.f ?_ | with_reducible refine BrG.notG ?_ | with_reducible refine BrG.nn ?_ | with_reducible refine BrG.ns ?_ | refine BrG.pos (by omega) ?_ | refine BrG.neg (by omega) ?_ | with_reducible refine BrG.pos rfl ?_ | refine BrG.pos (by assumption) ?_ | refine BrG.neg (by assumption) ?_ | refine BrG.pos (by decide) ?_ | refine BrG.neg (by decide) ?_) | refine Chk.mk (ptr_ok tblOk rfl rfl) ?_ | refine NilG.mk (fun _ => by kernel_rfl) ?_ | refine Chk.mk (by decide) ?_ | refine hS.ld rfl ?_ | refine hS.ldn rfl ?_ | (refine hS.st rfl rfl ?_; intro _ hS))
    exact ⟨rfl, hS.nil⟩
  repeat (first | refine SemW.run tblOk ?_ | refine IntG.nw (by omega) ?_ | refine IntG.nu8 (by omega) ?_ | refine IntG.nu32 (by omega) ?_ | refine IntG.nu64 (by omega) ?_ | refine IntG.wr' rfl ?_ | refine Chk.mk (by omega) ?_ | (refine BrG.id ?_; first | with_reducible refine BrG.t ?_ | with_reducible refine BrG.f ?_ | with_reducible refine BrG.notG ?_ | with_reducible refine BrG.nn ?_ | with_reducible refine BrG.ns ?_ | refine BrG.pos (by omega) ?_ | refine BrG.neg (by omega) ?_ | with_reducible refine BrG.pos rfl ?_ | refine BrG.pos (by assumption) ?_ | refine BrG.neg (by assumption) ?_ | refine BrG.pos (by decide) ?_ | refine BrG.neg (by decide) ?_) | refine Chk.mk (ptr_ok tblOk rfl rfl) ?_ | refine NilG.mk (fun _ => by kernel_rfl) ?_ | refine Chk.mk (by decide) ?_ | refine hS.ld rfl ?_ | refine hS.ldn rfl ?_ | (refine hS.st rfl rfl ?_; intro _ hS))
  refine BrG.id ?_
  generalize decide (x.fl = y.fl) = bb
  cases bb
  · repeat (first | refine SemW.run tblOk ?_ | refine IntG.nw (by omega) ?_ | refine IntG.nu8 (by omega) ?_ | refine IntG.nu32 (by omega) ?_ | refine IntG.nu64 (by omega) ?_ | refine IntG.wr' rfl ?_ | refine Chk.mk (by omega) ?_ | (refine BrG.id ?_; first | with_reducible refine BrG.t ?_ | with_reducible refine BrG.f ?_ | with_reducible refine BrG.notG ?_ | with_reducible refine BrG.nn ?_ | with_reducible refine BrG.ns ?_ | refine BrG.pos (by omega) ?_ | refine BrG.neg (by omega) ?_ | with_reducible refine BrG.pos rfl ?_ | refine BrG.pos (by assumption) ?_ | refine BrG.neg (by assumption) ?_ | refine BrG.pos (by decide) ?_ | refine BrG.neg (by decide) ?_) | refine Chk.mk (ptr_ok tblOk rfl rfl) ?_ | refine NilG.mk (fun _ => by kernel_rfl) ?_ | refine Chk.mk (by decide) ?_ | refine hS.ld rfl ?_ | refine hS.ldn rfl ?_ | (refine hS.st rfl rfl ?_; intro _ hS))
    exact ⟨rfl, hS.nil⟩
  repeat (first | refine SemW.run tblOk ?_ | refine IntG.nw (by omega) ?_ | refine IntG.nu8 (by omega) ?_ | refine IntG.nu32 (by omega) ?_ | refine IntG.nu64 (by omega) ?_ | refine IntG.wr' rfl ?_ | refine Chk.mk (by omega) ?_ | (refine BrG.id ?_; first | with_reducible refine BrG.t ?_ | with_reducible refine BrG.f ?_ | with_reducible refine BrG.notG ?_ | with_reducible refine BrG.nn ?_ | with_reducible refine BrG.ns ?_ | refine BrG.pos (by omega) ?_ | refine BrG.neg (by omega) ?_ | with_reducible refine BrG.pos rfl ?_ | refine BrG.pos (by assumption) ?_ | refine BrG.neg (by assumption) ?_ | refine BrG.pos (by decide) ?_ | refine BrG.neg (by decide) ?_) | refine Chk.mk (ptr_ok tblOk rfl rfl) ?_ | refine NilG.mk (fun _ => by kernel_rfl) ?_ | refine Chk.mk (by decide) ?_ | refine hS.ld rfl ?_ | refine hS.ldn rfl ?_ | (refine hS.st rfl rfl ?_; intro _ hS))
  refine BrG.id ?_
  generalize decide (x.eq = y.eq) = bb
  cases bb
  · repeat (first | refine SemW.run tblOk ?_ | refine IntG.nw (by omega) ?_ | refine IntG.nu8 (by omega) ?_ | refine IntG.nu32 (by omega) ?_ | refine IntG.nu64 (by omega) ?_ | refine IntG.wr' rfl ?_ | refine Chk.mk (by omega) ?_ | (refine BrG.id ?_; first | with_reducible refine BrG.t ?_ | with_reducible refine BrG.f ?_ | with_reducible refine BrG.notG ?_ | with_reducible refine BrG.nn ?_ | with_reducible refine BrG.ns ?_ | refine BrG.pos (by omega) ?_ | refine BrG.neg (by omega) ?_ | with_reducible refine BrG.pos rfl ?_ | refine BrG.pos (by assumption) ?_ | refine BrG.neg (by assumption) ?_ | refine BrG.pos (by decide) ?_ | refine BrG.neg (by decide) ?_) | refine Chk.mk (ptr_ok tblOk rfl rfl) ?_ | refine NilG.mk (fun _ => by kernel_rfl) ?_ | refine Chk.mk (by decide) ?_ | refine hS.ld rfl ?_ | refine hS.ldn rfl ?_ | (refine hS.st rfl rfl ?_; intro _ hS))
    exact ⟨rfl, hS.nil⟩
  repeat (first | refine SemW.run tblOk ?_ | refine IntG.nw (by omega) ?_ | refine IntG.nu8 (by omega) ?_ | refine IntG.nu32 (by omega) ?_ | refine IntG.nu64 (by omega) ?_ | refine IntG.wr' rfl ?_ | refine Chk.mk (by omega) ?_ | (refine BrG.id ?_; first | with_reducible refine BrG.t ?_ | with_reducible refine BrG.f ?_ | with_reducible refine BrG.notG ?_ | with_reducible refine BrG.nn ?_ | with_reducible refine BrG.ns ?_ | refine BrG.pos (by omega) ?_ | refine BrG.neg (by omega) ?_ | with_reducible refine BrG.pos rfl ?_ | refine BrG.pos (by assumption) ?_ | refine BrG.neg (by assumption) ?_ | refine BrG.pos (by decide) ?_ | refine BrG.neg (by decide) ?_) | refine Chk.mk (ptr_ok tblOk rfl rfl) ?_ | refine NilG.mk (fun _ => by kernel_rfl) ?_ | refine Chk.mk (by decide) ?_ | refine hS.ld rfl ?_ | refine hS.ldn rfl ?_ | (refine hS.st rfl rfl ?_; intro _ hS))
  refine BrG.id ?_
  generalize decide (x.cls = y.cls) = bb
  cases bb
  · repeat (first | refine SemW.run tblOk ?_ | refine IntG.nw (by omega) ?_ | refine IntG.nu8 (by omega) ?_ | refine IntG.nu32 (by omega) ?_ | refine IntG.nu64 (by omega) ?_ | refine IntG.wr' rfl ?_ | refine Chk.mk (by omega) ?_ | (refine BrG.id ?_; first | with_reducible refine BrG.t ?_ | with_reducible refine BrG.f ?_ | with_reducible refine BrG.notG ?_ | with_reducible refine BrG.nn ?_ | with_reducible refine BrG.ns ?_ | refine BrG.pos (by omega) ?_ | refine BrG.neg (by omega) ?_ | with_reducible refine BrG.pos rfl ?_ | refine BrG.pos (by assumption) ?_ | refine BrG.neg (by assumption) ?_ | refine BrG.pos (by decide) ?_ | refine BrG.neg (by decide) ?_) | refine Chk.mk (ptr_ok tblOk rfl rfl) ?_ | refine NilG.mk (fun _ => by kernel_rfl) ?_ | refine Chk.mk (by decide) ?_ | refine hS.ld rfl ?_ | refine hS.ldn rfl ?_ | (refine hS.st rfl rfl ?_; intro _ hS))
    exact ⟨rfl, hS.nil⟩
  repeat (first | refine SemW.run tblOk ?_ | refine IntG.nw (by omega) ?_ | refine IntG.nu8 (by omega) ?_ | refine IntG.nu32 (by omega) ?_ | refine IntG.nu64 (by omega) ?_ | refine IntG.wr' rfl ?_ | refine Chk.mk (by omega) ?_ | (refine BrG.id ?_; first | with_reducible refine BrG.t ?_ | with_reducible refine BrG.f ?_ | with_reducible refine BrG.notG ?_ | with_reducible refine BrG.nn ?_ | with_reducible refine BrG.ns ?_ | refine BrG.pos (by omega) ?_ | refine BrG.neg (by omega) ?_ | with_reducible refine BrG.pos rfl ?_ | refine BrG.pos (by assumption) ?_ | refine BrG.neg (by assumption) ?_ | refine BrG.pos (by decide) ?_ | refine BrG.neg (by decide) ?_) | refine Chk.mk (ptr_ok tblOk rfl rfl) ?_ | refine NilG.mk (fun _ => by kernel_rfl) ?_ | refine Chk.mk (by decide) ?_ | refine hS.ld rfl ?_ | refine hS.ldn rfl ?_ | (refine hS.st rfl rfl ?_; intro _ hS))
  refine eqlAgg (n := 2) (by omega) (by kernel_rfl) (eqWho _ _ _ _ _ _) ?_
  repeat (first | refine SemW.run tblOk ?_ | refine IntG.nw (by omega) ?_ | refine IntG.nu8 (by omega) ?_ | refine IntG.nu32 (by omega) ?_ | refine IntG.nu64 (by omega) ?_ | refine IntG.wr' rfl ?_ | refine Chk.mk (by omega) ?_ | (refine BrG.id ?_; first | with_reducible refine BrG.t ?_ | with_reducible refine BrG.f ?_ | with_reducible refine BrG.notG ?_ | with_reducible refine BrG.nn ?_ | with_reducible refine BrG.ns ?_ | refine BrG.pos (by omega) ?_ | refine BrG.neg (by omega) ?_ | with_reducible refine BrG.pos rfl ?_ | refine BrG.pos (by assumption) ?_ | refine BrG.neg (by assumption) ?_ | refine BrG.pos (by decide) ?_ | refine BrG.neg (by decide) ?_) | refine Chk.mk (ptr_ok tblOk rfl rfl) ?_ | refine NilG.mk (fun _ => by kernel_rfl) ?_ | refine Chk.mk (by decide) ?_ | refine hS.ld rfl ?_ | refine hS.ldn rfl ?_ | (refine hS.st rfl rfl ?_; intro _ hS))
  refine BrG.id ?_
  generalize (decide (x.wcab = y.wcab) && (decide (x.fit = y.fit) && (decide (x.inf = y.inf) && true))) = bb
  cases bb
  · repeat (first | refine SemW.run tblOk ?_ | refine IntG.nw (by omega) ?_ | refine IntG.nu8 (by omega) ?_ | refine IntG.nu32 (by omega) ?_ | refine IntG.nu64 (by omega) ?_ | refine IntG.wr' rfl ?_ | refine Chk.mk (by omega) ?_ | (refine BrG.id ?_; first | with_reducible refine BrG.t ?_ | with_reducible refine BrG.f ?_ | with_reducible refine BrG.notG ?_ | with_reducible refine BrG.nn ?_ | with_reducible refine BrG.ns ?_ | refine BrG.pos (by omega) ?_ | refine BrG.neg (by omega) ?_ | with_reducible refine BrG.pos rfl ?_ | refine BrG.pos (by assumption) ?_ | refine BrG.neg (by assumption) ?_ | refine BrG.pos (by decide) ?_ | refine BrG.neg (by decide) ?_) | refine Chk.mk (ptr_ok tblOk rfl rfl) ?_ | refine NilG.mk (fun _ => by kernel_rfl) ?_ | refine Chk.mk (by decide) ?_ | refine hS.ld rfl ?_ | refine hS.ldn rfl ?_ | (refine hS.st rfl rfl ?_; intro _ hS))
    exact ⟨rfl, hS.nil⟩
  repeat (first | refine SemW.run tblOk ?_ | refine IntG.nw (by omega) ?_ | refine IntG.nu8 (by omega) ?_ | refine IntG.nu32 (by omega) ?_ | refine IntG.nu64 (by omega) ?_ | refine IntG.wr' rfl ?_ | refine Chk.mk (by omega) ?_ | (refine BrG.id ?_; first | with_reducible refine BrG.t ?_ | with_reducible refine BrG.f ?_ | with_reducible refine BrG.notG ?_ | with_reducible refine BrG.nn ?_ | with_reducible refine BrG.ns ?_ | refine BrG.pos (by omega) ?_ | refine BrG.neg (by omega) ?_ | with_reducible refine BrG.pos rfl ?_ | refine BrG.pos (by assumption) ?_ | refine BrG.neg (by assumption) ?_ | refine BrG.pos (by decide) ?_ | refine BrG.neg (by decide) ?_) | refine Chk.mk (ptr_ok tblOk rfl rfl) ?_ | refine NilG.mk (fun _ => by kernel_rfl) ?_ | refine Chk.mk (by decide) ?_ | refine hS.ld rfl ?_ | refine hS.ldn rfl ?_ | (refine hS.st rfl rfl ?_; intro _ hS))
  refine Chk.mk (by kernel_rfl) ?_
  repeat (first | refine SemW.run tblOk ?_ | refine IntG.nw (by omega) ?_ | refine IntG.nu8 (by omega) ?_ | refine IntG.nu32 (by omega) ?_ | refine IntG.nu64 (by omega) ?_ | refine IntG.wr' rfl ?_ | refine Chk.mk (by omega) ?_ | (refine BrG.id ?_; first | with_reducible refine BrG.t ?_ | with_reducible refine BrG.f ?_ | with_reducible refine BrG.notG ?_ | with_reducible refine BrG.nn ?_ | with_reducible refine BrG.ns ?_ | refine BrG.pos (by omega) ?_ | refine BrG.neg (by omega) ?_ | with_reducible refine BrG.pos rfl ?_ | refine BrG.pos (by assumption) ?_ | refine BrG.neg (by assumption) ?_ | refine BrG.pos (by decide) ?_ | refine BrG.neg (by decide) ?_) | refine Chk.mk (ptr_ok tblOk rfl rfl) ?_ | refine NilG.mk (fun _ => by kernel_rfl) ?_ | refine Chk.mk (by decide) ?_ | refine hS.ld rfl ?_ | refine hS.ldn rfl ?_ | (refine hS.st rfl rfl ?_; intro _ hS))
  refine BrG.id ?_
  rw [beq_dec]
  generalize decide (x.vol = y.vol) = bb
  cases bb
  · repeat (first | refine SemW.run tblOk ?_ | refine IntG.nw (by omega) ?_ | refine IntG.nu8 (by omega) ?_ | refine IntG.nu32 (by omega) ?_ | refine IntG.nu64 (by omega) ?_ | refine IntG.wr' rfl ?_ | refine Chk.mk (by omega) ?_ | (refine BrG.id ?_; first | with_reducible refine BrG.t ?_ | with_reducible refine BrG.f ?_ | with_reducible refine BrG.notG ?_ | with_reducible refine BrG.nn ?_ | with_reducible refine BrG.ns ?_ | refine BrG.pos (by omega) ?_ | refine BrG.neg (by omega) ?_ | with_reducible refine BrG.pos rfl ?_ | refine BrG.pos (by assumption) ?_ | refine BrG.neg (by assumption) ?_ | refine BrG.pos (by decide) ?_ | refine BrG.neg (by decide) ?_) | refine Chk.mk (ptr_ok tblOk rfl rfl) ?_ | refine NilG.mk (fun _ => by kernel_rfl) ?_ | refine Chk.mk (by decide) ?_ | refine hS.ld rfl ?_ | refine hS.ldn rfl ?_ | (refine hS.st rfl rfl ?_; intro _ hS))
    exact ⟨rfl, hS.nil⟩
  repeat (first | refine SemW.run tblOk ?_ | refine IntG.nw (by omega) ?_ | refine IntG.nu8 (by omega) ?_ | refine IntG.nu32 (by omega) ?_ | refine IntG.nu64 (by omega) ?_ | refine IntG.wr' rfl ?_ | refine Chk.mk (by omega) ?_ | (refine BrG.id ?_; first | with_reducible refine BrG.t ?_ | with_reducible refine BrG.f ?_ | with_reducible refine BrG.notG ?_ | with_reducible refine BrG.nn ?_ | with_reducible refine BrG.ns ?_ | refine BrG.pos (by omega) ?_ | refine BrG.neg (by omega) ?_ | with_reducible refine BrG.pos rfl ?_ | refine BrG.pos (by assumption) ?_ | refine BrG.neg (by assumption) ?_ | refine BrG.pos (by decide) ?_ | refine BrG.neg (by decide) ?_) | refine Chk.mk (ptr_ok tblOk rfl rfl) ?_ | refine NilG.mk (fun _ => by kernel_rfl) ?_ | refine Chk.mk (by decide) ?_ | refine hS.ld rfl ?_ | refine hS.ldn rfl ?_ | (refine hS.st rfl rfl ?_; intro _ hS))
  refine Chk.mk (by kernel_rfl) ?_
  repeat (first | refine SemW.run tblOk ?_ | refine IntG.nw (by omega) ?_ | refine IntG.nu8 (by omega) ?_ | refine IntG.nu32 (by omega) ?_ | refine IntG.nu64 (by omega) ?_ | refine IntG.wr' rfl ?_ | refine Chk.mk (by omega) ?_ | (refine BrG.id ?_; first | with_reducible refine BrG.t ?_ | with_reducible refine BrG.f ?_ | with_reducible refine BrG.notG ?_ | with_reducible refine BrG.nn ?_ | with_reducible refine BrG.ns ?_ | refine BrG.pos (by omega) ?_ | refine BrG.neg (by omega) ?_ | with_reducible refine BrG.pos rfl ?_ | refine BrG.pos (by assumption) ?_ | refine BrG.neg (by assumption) ?_ | refine BrG.pos (by decide) ?_ | refine BrG.neg (by decide) ?_) | refine Chk.mk (ptr_ok tblOk rfl rfl) ?_ | refine NilG.mk (fun _ => by kernel_rfl) ?_ | refine Chk.mk (by decide) ?_ | refine hS.ld rfl ?_ | refine hS.ldn rfl ?_ | (refine hS.st rfl rfl ?_; intro _ hS))
  refine BrG.id ?_
  rw [beq_dec]
  generalize decide (x.stb = y.stb) = bb
  cases bb
  · repeat (first | refine SemW.run tblOk ?_ | refine IntG.nw (by omega) ?_ | refine IntG.nu8 (by omega) ?_ | refine IntG.nu32 (by omega) ?_ | refine IntG.nu64 (by omega) ?_ | refine IntG.wr' rfl ?_ | refine Chk.mk (by omega) ?_ | (refine BrG.id ?_; first | with_reducible refine BrG.t ?_ | with_reducible refine BrG.f ?_ | with_reducible refine BrG.notG ?_ | with_reducible refine BrG.nn ?_ | with_reducible refine BrG.ns ?_ | refine BrG.pos (by omega) ?_ | refine BrG.neg (by omega) ?_ | with_reducible refine BrG.pos rfl ?_ | refine BrG.pos (by assumption) ?_ | refine BrG.neg (by assumption) ?_ | refine BrG.pos (by decide) ?_ | refine BrG.neg (by decide) ?_) | refine Chk.mk (ptr_ok tblOk rfl rfl) ?_ | refine NilG.mk (fun _ => by kernel_rfl) ?_ | refine Chk.mk (by decide) ?_ | refine hS.ld rfl ?_ | refine hS.ldn rfl ?_ | (refine hS.st rfl rfl ?_; intro _ hS))
    exact ⟨rfl, hS.nil⟩
  repeat (first | refine SemW.run tblOk ?_ | refine IntG.nw (by omega) ?_ | refine IntG.nu8 (by omega) ?_ | refine IntG.nu32 (by omega) ?_ | refine IntG.nu64 (by omega) ?_ | refine IntG.wr' rfl ?_ | refine Chk.mk (by omega) ?_ | (refine BrG.id ?_; first | with_reducible refine BrG.t ?_ | with_reducible refine BrG.f ?_ | with_reducible refine BrG.notG ?_ | with_reducible refine BrG.nn ?_ | with_reducible refine BrG.ns ?_ | refine BrG.pos (by omega) ?_ | refine BrG.neg (by omega) ?_ | with_reducible refine BrG.pos rfl ?_ | refine BrG.pos (by assumption) ?_ | refine BrG.neg (by assumption) ?_ | refine BrG.pos (by decide) ?_ | refine BrG.neg (by decide) ?_) | refine Chk.mk (ptr_ok tblOk rfl rfl) ?_ | refine NilG.mk (fun _ => by kernel_rfl) ?_ | refine Chk.mk (by decide) ?_ | refine hS.ld rfl ?_ | refine hS.ldn rfl ?_ | (refine hS.st rfl rfl ?_; intro _ hS))
  refine eqlAgg (n := 2) (by omega) (by kernel_rfl) (eqSeat _ _ _ _) ?_
  repeat (first | refine SemW.run tblOk ?_ | refine IntG.nw (by omega) ?_ | refine IntG.nu8 (by omega) ?_ | refine IntG.nu32 (by omega) ?_ | refine IntG.nu64 (by omega) ?_ | refine IntG.wr' rfl ?_ | refine Chk.mk (by omega) ?_ | (refine BrG.id ?_; first | with_reducible refine BrG.t ?_ | with_reducible refine BrG.f ?_ | with_reducible refine BrG.notG ?_ | with_reducible refine BrG.nn ?_ | with_reducible refine BrG.ns ?_ | refine BrG.pos (by omega) ?_ | refine BrG.neg (by omega) ?_ | with_reducible refine BrG.pos rfl ?_ | refine BrG.pos (by assumption) ?_ | refine BrG.neg (by assumption) ?_ | refine BrG.pos (by decide) ?_ | refine BrG.neg (by decide) ?_) | refine Chk.mk (ptr_ok tblOk rfl rfl) ?_ | refine NilG.mk (fun _ => by kernel_rfl) ?_ | refine Chk.mk (by decide) ?_ | refine hS.ld rfl ?_ | refine hS.ldn rfl ?_ | (refine hS.st rfl rfl ?_; intro _ hS))
  refine BrG.id ?_
  generalize decide (x.num = y.num ∧ x.lt = y.lt) = bb
  cases bb
  · repeat (first | refine SemW.run tblOk ?_ | refine IntG.nw (by omega) ?_ | refine IntG.nu8 (by omega) ?_ | refine IntG.nu32 (by omega) ?_ | refine IntG.nu64 (by omega) ?_ | refine IntG.wr' rfl ?_ | refine Chk.mk (by omega) ?_ | (refine BrG.id ?_; first | with_reducible refine BrG.t ?_ | with_reducible refine BrG.f ?_ | with_reducible refine BrG.notG ?_ | with_reducible refine BrG.nn ?_ | with_reducible refine BrG.ns ?_ | refine BrG.pos (by omega) ?_ | refine BrG.neg (by omega) ?_ | with_reducible refine BrG.pos rfl ?_ | refine BrG.pos (by assumption) ?_ | refine BrG.neg (by assumption) ?_ | refine BrG.pos (by decide) ?_ | refine BrG.neg (by decide) ?_) | refine Chk.mk (ptr_ok tblOk rfl rfl) ?_ | refine NilG.mk (fun _ => by kernel_rfl) ?_ | refine Chk.mk (by decide) ?_ | refine hS.ld rfl ?_ | refine hS.ldn rfl ?_ | (refine hS.st rfl rfl ?_; intro _ hS))
    exact ⟨rfl, hS.nil⟩
  repeat (first | refine SemW.run tblOk ?_ | refine IntG.nw (by omega) ?_ | refine IntG.nu8 (by omega) ?_ | refine IntG.nu32 (by omega) ?_ | refine IntG.nu64 (by omega) ?_ | refine IntG.wr' rfl ?_ | refine Chk.mk (by omega) ?_ | (refine BrG.id ?_; first | with_reducible refine BrG.t ?_ | with_reducible refine BrG.f ?_ | with_reducible refine BrG.notG ?_ | with_reducible refine BrG.nn ?_ | with_reducible refine BrG.ns ?_ | refine BrG.pos (by omega) ?_ | refine BrG.neg (by omega) ?_ | with_reducible refine BrG.pos rfl ?_ | refine BrG.pos (by assumption) ?_ | refine BrG.neg (by assumption) ?_ | refine BrG.pos (by decide) ?_ | refine BrG.neg (by decide) ?_) | refine Chk.mk (ptr_ok tblOk rfl rfl) ?_ | refine NilG.mk (fun _ => by kernel_rfl) ?_ | refine Chk.mk (by decide) ?_ | refine hS.ld rfl ?_ | refine hS.ldn rfl ?_ | (refine hS.st rfl rfl ?_; intro _ hS))
  refine eqlAgg (n := 2) (by omega) (by kernel_rfl) (eqLim _ _ _ _ _ _ _ _) ?_
  repeat (first | refine SemW.run tblOk ?_ | refine IntG.nw (by omega) ?_ | refine IntG.nu8 (by omega) ?_ | refine IntG.nu32 (by omega) ?_ | refine IntG.nu64 (by omega) ?_ | refine IntG.wr' rfl ?_ | refine Chk.mk (by omega) ?_ | (refine BrG.id ?_; first | with_reducible refine BrG.t ?_ | with_reducible refine BrG.f ?_ | with_reducible refine BrG.notG ?_ | with_reducible refine BrG.nn ?_ | with_reducible refine BrG.ns ?_ | refine BrG.pos (by omega) ?_ | refine BrG.neg (by omega) ?_ | with_reducible refine BrG.pos rfl ?_ | refine BrG.pos (by assumption) ?_ | refine BrG.neg (by assumption) ?_ | refine BrG.pos (by decide) ?_ | refine BrG.neg (by decide) ?_) | refine Chk.mk (ptr_ok tblOk rfl rfl) ?_ | refine NilG.mk (fun _ => by kernel_rfl) ?_ | refine Chk.mk (by decide) ?_ | refine hS.ld rfl ?_ | refine hS.ldn rfl ?_ | (refine hS.st rfl rfl ?_; intro _ hS))
  refine BrG.id ?_
  generalize (decide (x.l0 = y.l0) && (decide (x.l1 = y.l1) && (decide (x.l2 = y.l2) && (decide (x.l3 = y.l3) && true)))) = bb
  cases bb
  · repeat (first | refine SemW.run tblOk ?_ | refine IntG.nw (by omega) ?_ | refine IntG.nu8 (by omega) ?_ | refine IntG.nu32 (by omega) ?_ | refine IntG.nu64 (by omega) ?_ | refine IntG.wr' rfl ?_ | refine Chk.mk (by omega) ?_ | (refine BrG.id ?_; first | with_reducible refine BrG.t ?_ | with_reducible refine BrG.f ?_ | with_reducible refine BrG.notG ?_ | with_reducible refine BrG.nn ?_ | with_reducible refine BrG.ns ?_ | refine BrG.pos (by omega) ?_ | refine BrG.neg (by omega) ?_ | with_reducible refine BrG.pos rfl ?_ | refine BrG.pos (by assumption) ?_ | refine BrG.neg (by assumption) ?_ | refine BrG.pos (by decide) ?_ | refine BrG.neg (by decide) ?_) | refine Chk.mk (ptr_ok tblOk rfl rfl) ?_ | refine NilG.mk (fun _ => by kernel_rfl) ?_ | refine Chk.mk (by decide) ?_ | refine hS.ld rfl ?_ | refine hS.ldn rfl ?_ | (refine hS.st rfl rfl ?_; intro _ hS))
    exact ⟨rfl, hS.nil⟩
  repeat (first | refine SemW.run tblOk ?_ | refine IntG.nw (by omega) ?_ | refine IntG.nu8 (by omega) ?_ | refine IntG.nu32 (by omega) ?_ | refine IntG.nu64 (by omega) ?_ | refine IntG.wr' rfl ?_ | refine Chk.mk (by omega) ?_ | (refine BrG.id ?_; first | with_reducible refine BrG.t ?_ | with_reducible refine BrG.f ?_ | with_reducible refine BrG.notG ?_ | with_reducible refine BrG.nn ?_ | with_reducible refine BrG.ns ?_ | refine BrG.pos (by omega) ?_ | refine BrG.neg (by omega) ?_ | with_reducible refine BrG.pos rfl ?_ | refine BrG.pos (by assumption) ?_ | refine BrG.neg (by assumption) ?_ | refine BrG.pos (by decide) ?_ | refine BrG.neg (by decide) ?_) | refine Chk.mk (ptr_ok tblOk rfl rfl) ?_ | refine NilG.mk (fun _ => by kernel_rfl) ?_ | refine Chk.mk (by decide) ?_ | refine hS.ld rfl ?_ | refine hS.ldn rfl ?_ | (refine hS.st rfl rfl ?_; intro _ hS))
  exact ⟨rfl, hS.nil⟩
end Go.Proofs.YthpmmfapolcaiaaDoor

/- Rows, passengers handed in, opened. -/
namespace Go.Proofs.YthpmmfapolcaiaaDoor
open Go Go.Eng Go.Proofs
open Go.ChangeShapes Go.WideShapes Go.ChangeAt Go.RowKit

theorem opens_row : Opens Tryd.prog T_api_Row RRow (fun r => r.seats.length + 6) := by
  refine Opens.map (Opens.struct (sz := 5) Tryd.underlying38 (by kernel_rfl) (OpensFs.cons (s := 1) rfl (by kernel_rfl) (Opens.int Tryd.underlying3) (OpensFs.cons (s := 1) rfl (by kernel_rfl) (Opens.int Tryd.underlying3) (OpensFs.cons (s := 1) rfl (by kernel_rfl) (Opens.int Tryd.underlying3)
    (OpensFs.cons (s := 1) rfl (by kernel_rfl) (Opens.bool Tryd.underlying4) (OpensFs.cons (s := 1) rfl (by kernel_rfl) (Opens.str Tryd.underlying9) OpensFs.nil)))))) (fun x => ⟨x.1, x.2.1, x.2.2.1, x.2.2.2.1, x.2.2.2.2.1⟩) ?_ (fun x => by (try simp only); omega)
  intro W cs x h
  obtain ⟨e1, w1, h⟩ := pair_int h
  obtain ⟨e2, w2, h⟩ := pair_int h
  obtain ⟨e3, w3, h⟩ := pair_int h
  obtain ⟨e4, h⟩ := pair_bool h
  obtain ⟨e5, h⟩ := pair_str h
  have h : (((((cs.drop 1).drop 1).drop 1).drop 1).drop 1) = [] := h
  rw [h] at e5; rw [e5] at e4; rw [e4] at e3; rw [e3] at e2; rw [e2] at e1
  exact ⟨e1, wf_i64b w1, wf_i64b w2, wf_i64b w3⟩
theorem len4 {α : Type} {cs : List α} (h : cs.length = 4) : ∃ a b c d, cs = [a, b, c, d] := by
  match cs, h with
  | [a, b, c, d], _ => exact ⟨a, b, c, d, rfl⟩
def RInts4 : CellR (Int × Int × Int × Int) := fun _ cs x => cs = [.int .i64 x.1, .int .i64 x.2.1, .int .i64 x.2.2.1, .int .i64 x.2.2.2] ∧ i64b x.1 ∧ i64b x.2.1 ∧ i64b x.2.2.1 ∧ i64b x.2.2.2
theorem Opens.ints4 {P : Program} {t e : TypeId} (ht : P.underlying t = some (.array 4 e)) (he : P.underlying e = some (.int .i64)) (hce : P.cellsOf e = 1) (hct : P.cellsOf t = 4) : Opens P t RInts4 (fun _ => 4) := by
  refine ⟨fun {H enc W fuel cs x} h => ?_⟩
  obtain ⟨xs, n, -, rfl, hl, hxl, hx⟩ := DataW.trod_array ht h
  rw [hct] at hl
  rw [hce] at hx
  obtain ⟨a, b, c, d, rfl⟩ := len4 hl
  have g : ∀ i v, i < 4 → ([a, b, c, d] : List Value)[i]? = some v → ∃ z, v = .int .i64 z ∧ i64b z ∧ (xs[i]?).map (fun y => Rows.uptoBulk y.1) = some 1 := by
    intro i v hi hv
    have h1 := hx i hi
    have h2 : ((([a, b, c, d] : List Value).drop (i * 1)).take 1) = [v] := by
      rw [Nat.mul_one]
      match i, hi with
      | 0, _ => simpa using hv
      | 1, _ => simpa using hv
      | 2, _ => simpa using hv
      | 3, _ => simpa using hv
    rw [h2] at h1
    rw [List.getElem?_eq_getElem (show i < xs.length by omega)] at h1
    obtain ⟨z, h3, h4, h5⟩ := DataW.trod_int he h1
    refine ⟨z, by simpa using h3, wf_i64b h5, ?_⟩
    rw [List.getElem?_eq_getElem (show i < xs.length by omega), h4]; rfl
  obtain ⟨z0, rfl, w0, b0⟩ := g 0 a (by omega) rfl
  obtain ⟨z1, rfl, w1, b1⟩ := g 1 b (by omega) rfl
  obtain ⟨z2, rfl, w2, b2⟩ := g 2 c (by omega) rfl
  obtain ⟨z3, rfl, w3, b3⟩ := g 3 d (by omega) rfl
  refine ⟨(z0, z1, z2, z3), ⟨rfl, w0, w1, w2, w3⟩, ?_⟩
  obtain ⟨x0, x1, x2, x3, rfl⟩ := len4 hxl
  simp only [List.getElem?_cons_zero, List.getElem?_cons_succ, Option.map_some, Option.some.injEq] at b0 b1 b2 b3
  simp only [List.map_cons, List.map_nil, Rows.uptoBulk, Rows.uptoBulkAll]
  omega
theorem pair_ints4 {β : Type} {S : CellR β} {W : World} {cs : List Value} {x : (Int × Int × Int × Int) × β} (h : RPair 4 RInts4 S W cs x) : cs = .int .i64 x.1.1 :: .int .i64 x.1.2.1 :: .int .i64 x.1.2.2.1 :: .int .i64 x.1.2.2.2 :: cs.drop 4 ∧ (i64b x.1.1 ∧ i64b x.1.2.1 ∧ i64b x.1.2.2.1 ∧ i64b x.1.2.2.2) ∧ S W (cs.drop 4) x.2 := by
  refine ⟨?_, h.1.2, h.2⟩
  conv => lhs; rw [← List.take_append_drop 4 cs, h.1.1]
  rfl
theorem takeN {n : Nat} {cs l : List Value} (h : cs.take n = l) : cs = l ++ cs.drop n := by rw [← h, List.take_append_drop]
def RWho : CellR (Int × Bool × Bool) := fun _ cs x => cs = [.int .i64 x.1, .bool x.2.1, .bool x.2.2] ∧ i64b x.1
theorem opens_who : Opens Tryd.prog T_api_Who RWho (fun _ => 4) := by
  refine Opens.map (Opens.struct (sz := 3) Tryd.underlying23 (by kernel_rfl) (OpensFs.cons (s := 1) rfl (by kernel_rfl) (Opens.int Tryd.underlying3) (OpensFs.cons (s := 1) rfl (by kernel_rfl) (Opens.bool Tryd.underlying4) (OpensFs.cons (s := 1) rfl (by kernel_rfl) (Opens.bool Tryd.underlying4) OpensFs.nil)))) (fun x => (x.1, x.2.1, x.2.2.1)) ?_ (fun x => by (try simp only); omega)
  intro W cs x h
  obtain ⟨e1, w1, h⟩ := pair_int h
  obtain ⟨e2, h⟩ := pair_bool h
  obtain ⟨e3, h⟩ := pair_bool h
  have h : (((cs.drop 1).drop 1).drop 1) = [] := h
  rw [h] at e3; rw [e3] at e2; rw [e2] at e1
  exact ⟨e1, wf_i64b w1⟩
def RSeatC : CellR (Int × Nat) := fun _ cs x => cs = [.int .i64 x.1, .int .u8 x.2] ∧ i64b x.1 ∧ x.2 < 256
theorem opens_seatC : Opens Tryd.prog T_api_Seat RSeatC (fun _ => 3) := by
  refine Opens.map (Opens.struct (sz := 2) Tryd.underlying25 (by kernel_rfl) (OpensFs.cons (s := 1) rfl (by kernel_rfl) (Opens.int Tryd.underlying3) (OpensFs.cons (s := 1) rfl (by kernel_rfl) (Opens.int Tryd.underlying5) OpensFs.nil))) (fun x => (x.1, x.2.1.toNat)) ?_ (fun x => by (try simp only); omega)
  intro W cs x h
  obtain ⟨e1, w1, h⟩ := pair_int h
  obtain ⟨e2, w2, h⟩ := pair_int h
  have h : ((cs.drop 1).drop 1) = [] := h
  rw [h] at e2; rw [e2] at e1
  have hw := wf_u8b w2
  refine ⟨?_, wf_i64b w1, by simp only; omega⟩
  simp only
  rw [show ((x.2.1.toNat : Nat) : Int) = x.2.1 by omega]; exact e1
theorem opens_pax : Opens Tryd.prog T_api_Pax RPax (fun _ => 14) := by
  refine Opens.map (Opens.struct (sz := 13) Tryd.underlying42 (by kernel_rfl) (OpensFs.cons (s := 1) rfl (by kernel_rfl) (Opens.int Tryd.underlying3) (OpensFs.cons (s := 1) rfl (by kernel_rfl) (Opens.int Tryd.underlying3) (OpensFs.cons (s := 3) rfl (by kernel_rfl) opens_who
    (OpensFs.cons (s := 1) rfl (by kernel_rfl) (Opens.bool Tryd.underlying4) (OpensFs.cons (s := 1) rfl (by kernel_rfl) (Opens.bool Tryd.underlying4) (OpensFs.cons (s := 1) rfl (by kernel_rfl) (Opens.int Tryd.underlying3) (OpensFs.cons (s := 1) rfl (by kernel_rfl) (Opens.int Tryd.underlying3)
    (OpensFs.cons (s := 1) rfl (by kernel_rfl) (Opens.int Tryd.underlying3) (OpensFs.cons (s := 1) rfl (by kernel_rfl) (Opens.int Tryd.underlying3) (OpensFs.cons (s := 2) rfl (by kernel_rfl) opens_seatC OpensFs.nil)))))))))))
    (fun x => ⟨x.1, x.2.1, x.2.2.1.1, x.2.2.1.2.1, x.2.2.1.2.2, x.2.2.2.1, x.2.2.2.2.1, x.2.2.2.2.2.1, x.2.2.2.2.2.2.1, x.2.2.2.2.2.2.2.1, x.2.2.2.2.2.2.2.2.1, x.2.2.2.2.2.2.2.2.2.1.1, x.2.2.2.2.2.2.2.2.2.1.2⟩) ?_ (fun x => by (try simp only); omega)
  intro W cs x h
  obtain ⟨e1, w1, h⟩ := pair_int h
  obtain ⟨e2, w2, h⟩ := pair_int h
  obtain ⟨⟨e3, w3⟩, h⟩ := h
  have e3 := takeN e3
  obtain ⟨e4, h⟩ := pair_bool h
  obtain ⟨e5, h⟩ := pair_bool h
  obtain ⟨e6, w6, h⟩ := pair_int h
  obtain ⟨e7, w7, h⟩ := pair_int h
  obtain ⟨e8, w8, h⟩ := pair_int h
  obtain ⟨e9, w9, h⟩ := pair_int h
  obtain ⟨⟨e10, w10, w11⟩, h⟩ := h
  have e10 := takeN e10
  have h : (((((((((((cs.drop 1).drop 1).drop 3).drop 1).drop 1).drop 1).drop 1).drop 1).drop 1).drop 2)) = [] := h
  rw [h] at e10; rw [e10] at e9; rw [e9] at e8; rw [e8] at e7; rw [e7] at e6; rw [e6] at e5; rw [e5] at e4; rw [e4] at e3; rw [e3] at e2; rw [e2] at e1
  exact ⟨e1, wf_i64b w1, wf_i64b w2, w3, wf_i64b w6, wf_i64b w7, wf_i64b w8, wf_i64b w9, w10, w11⟩
end Go.Proofs.YthpmmfapolcaiaaDoor
