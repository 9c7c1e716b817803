/- Texts of this claim, one behind the other. -/
import Derived.Test.YthpmmfapolcaiaaDoorZ5CWireUnlike
import Derived.Test.YthpmmfapolcaiaaDoorZ4CWireUnlike
/- Commands and replies handed in, opened. -/
namespace Go.Proofs.YthpmmfapolcaiaaDoor
open Go Go.Eng Go.Proofs
open Go.ChangeShapes Go.WideShapes Go.ChangeAt Go.RowKit
def RCmd : CellR CmdM := fun W cs c => ∃ v, cs = [.int .i64 c.kind, .int .i64 c.req, .int .i64 c.id, .int .i64 c.fl, .int .i64 c.eq, .int .i64 c.cls, .int .i64 c.wcab, .bool c.fit, .bool c.inf, .bool c.vol, .bool c.stb, .int .i64 c.num, .int .u8 c.lt, v, .int .i64 c.l0, .int .i64 c.l1, .int .i64 c.l2, .int .i64 c.l3, Str c.text] ∧ RSl 5 RRow W [v] c.rows ∧ (∀ rs, c.rows = rs → (∀ r ∈ rs, r.ok) → c.ok)
theorem opens_cmd : Opens Tryd.prog T_api_Command RCmd (fun c => (c.rows.map fun r => r.seats.length + 6).sum + c.text.length + 3) := by
  refine Opens.map (Opens.struct (sz := 19) Tryd.underlying29 (by kernel_rfl) (OpensFs.cons (s := 1) rfl (by kernel_rfl) (Opens.int Tryd.underlying3) (OpensFs.cons (s := 1) rfl (by kernel_rfl) (Opens.int Tryd.underlying3) (OpensFs.cons (s := 1) rfl (by kernel_rfl) (Opens.int Tryd.underlying3)
    (OpensFs.cons (s := 1) rfl (by kernel_rfl) (Opens.int Tryd.underlying3) (OpensFs.cons (s := 1) rfl (by kernel_rfl) (Opens.int Tryd.underlying3) (OpensFs.cons (s := 1) rfl (by kernel_rfl) (Opens.int Tryd.underlying3) (OpensFs.cons (s := 3) rfl (by kernel_rfl) opens_who
    (OpensFs.cons (s := 1) rfl (by kernel_rfl) (Opens.bool Tryd.underlying4) (OpensFs.cons (s := 1) rfl (by kernel_rfl) (Opens.bool Tryd.underlying4) (OpensFs.cons (s := 2) rfl (by kernel_rfl) opens_seatC
    (OpensFs.cons (s := 1) rfl (by kernel_rfl) (Opens.slice Tryd.underlying26 (show Tryd.prog.cellsOf T_api_Row = 5 by kernel_rfl) (by decide) opens_row) (OpensFs.cons (s := 4) rfl (by kernel_rfl) (Opens.ints4 Tryd.underlying27 Tryd.underlying3 (by kernel_rfl) (by kernel_rfl))
    (OpensFs.cons (s := 1) rfl (by kernel_rfl) (Opens.str Tryd.underlying9) OpensFs.nil))))))))))))))
    (fun x => ⟨x.1, x.2.1, x.2.2.1, x.2.2.2.1, x.2.2.2.2.1, x.2.2.2.2.2.1, x.2.2.2.2.2.2.1.1, x.2.2.2.2.2.2.1.2.1, x.2.2.2.2.2.2.1.2.2, x.2.2.2.2.2.2.2.1, x.2.2.2.2.2.2.2.2.1, x.2.2.2.2.2.2.2.2.2.1.1, x.2.2.2.2.2.2.2.2.2.1.2, x.2.2.2.2.2.2.2.2.2.2.1,
      x.2.2.2.2.2.2.2.2.2.2.2.1.1, x.2.2.2.2.2.2.2.2.2.2.2.1.2.1, x.2.2.2.2.2.2.2.2.2.2.2.1.2.2.1, x.2.2.2.2.2.2.2.2.2.2.2.1.2.2.2, x.2.2.2.2.2.2.2.2.2.2.2.2.1⟩) ?_ (fun x => by (try simp only); omega)
  intro W cs x h
  obtain ⟨e1, w1, h⟩ := pair_int h
  obtain ⟨e2, w2, h⟩ := pair_int h
  obtain ⟨e3, w3, h⟩ := pair_int h
  obtain ⟨e4, w4, h⟩ := pair_int h
  obtain ⟨e5, w5, h⟩ := pair_int h
  obtain ⟨e6, w6, h⟩ := pair_int h
  obtain ⟨⟨e7, w7⟩, h⟩ := h
  have e7 := takeN e7
  obtain ⟨e8, h⟩ := pair_bool h
  obtain ⟨e9, h⟩ := pair_bool h
  obtain ⟨⟨e10, w10, w11⟩, h⟩ := h
  have e10 := takeN e10
  obtain ⟨v, e11, hr, h⟩ := pair_sl h
  obtain ⟨e12, ⟨w12, w13, w14, w15⟩, h⟩ := pair_ints4 h
  obtain ⟨e13, h⟩ := pair_str h
  have h : (((((((((((((cs.drop 1).drop 1).drop 1).drop 1).drop 1).drop 1).drop 3).drop 1).drop 1).drop 2).drop 1).drop 4).drop 1) = [] := h
  rw [h] at e13; rw [e13] at e12; rw [e12] at e11; rw [e11] at e10; rw [e10] at e9; rw [e9] at e8; rw [e8] at e7; rw [e7] at e6; rw [e6] at e5; rw [e5] at e4; rw [e4] at e3; rw [e3] at e2; rw [e2] at e1
  exact ⟨v, e1, hr, fun rs hrs hall => ⟨wf_i64b w1, wf_i64b w2, wf_i64b w3, wf_i64b w4, wf_i64b w5, wf_i64b w6, w7, w10, w11, (by rw [hrs]; exact hall), w12, w13, w14, w15⟩⟩
theorem rsl_rows {W : World} {a : Option Addr} {cap : Nat} {rs : List RowM} (h : RSl 5 RRow W [.slice a rs.length cap] rs) : RowsAt W a cap rs ∧ ∀ r ∈ rs, r.ok := by
  refine ⟨⟨fun j v hj => ?_, ?_⟩, fun r hr => ?_⟩
  · have hl := flatRow_len rs
    have hjl := (List.getElem?_eq_some_iff.1 hj).1
    have hk : j / 5 < rs.length := by omega
    obtain ⟨b, off, cs, h1, h2, h3, h4, -⟩ := h.at hk
    refine ⟨b, off, h1, by simp, ?_⟩
    have := h3 (j % 5) v (by rw [h4, ← flatRow_at rs (j / 5) hk (j % 5) (by omega), show j / 5 * 5 + j % 5 = j by omega]; exact hj)
    rw [show j / 5 * 5 + j % 5 = j by omega] at this
    exact this
  · obtain ⟨a', cap', h1, h2, -⟩ := h.ex
    have : cap = cap' := by simpa using (List.cons.inj h1).1 |> fun h => (Value.slice.inj h).2.2
    omega
  · obtain ⟨i, hi, rfl⟩ := List.mem_iff_getElem.1 hr
    obtain ⟨b, off, cs, -, -, -, -, h5⟩ := h.at hi
    exact h5
theorem seats_sum {rs : List RowM} : ∀ r ∈ rs, r.seats.length + 6 ≤ (rs.map fun r => r.seats.length + 6).sum := fun r hr => by
  obtain ⟨i, hi, rfl⟩ := List.mem_iff_getElem.1 hr
  exact rowsW_at rs i hi
theorem open_cmdAt {H : Type} {enc : TypeId × Value → H} {W : World} {v : Value} {d : DataW H} {p : List MemPlace} (hd : DataW.Trod enc Tryd.prog W 0 (fun _ => true) true T_api_Command v d p) :
    ∃ (c : CmdM) (a : Option Addr) (cap : Nat), v = cmdV c a cap ∧ (Rows.uptoBulk d ≤ 1048576 → ArgC W c a cap) := by
  obtain ⟨c, ⟨u, hcs, h1, hok⟩, hb⟩ := Trod.out hd opens_cmd
  obtain ⟨a, cap, rfl, -, -, h1⟩ := h1.inv
  obtain ⟨hR, hall⟩ := rsl_rows h1
  refine ⟨c, a, cap, ?_, fun hB => ⟨hR, hok _ rfl hall, ?_, by omega, fun r hr => ?_⟩⟩
  · cases v with
    | agg cs => cases cs; simp only [Value.cells] at hcs; rw [hcs]
    | _ => simp [Value.cells] at hcs
  · have := rowsW_len c.rows
    unfold rowsW at this
    omega
  · have := seats_sum (rs := c.rows) r hr
    omega
def RReply : CellR ReplyM := fun W cs r => ∃ v, cs = [.int .i64 r.code, v, .int .i64 r.n0, .int .i64 r.n1, .int .i64 r.n2, .int .i64 r.n3, .bool r.over, .int .i64 r.pax.id, .int .i64 r.pax.flight, .int .i64 r.pax.cab, .bool r.pax.fit, .bool r.pax.infant, .bool r.pax.vol, .bool r.pax.stb, .int .i64 r.pax.cls, .int .i64 r.pax.status, .int .i64 r.pax.tick, .int .i64 r.pax.pass, .int .i64 r.pax.num, .int .u8 r.pax.c, Str r.text] ∧ RSl 1 (RInt .i64) W [v] r.ids ∧ ((∀ z ∈ r.ids, i64ok z) → r.ok)
theorem opens_reply : Opens Tryd.prog T_api_Reply RReply (fun r => r.ids.length + r.text.length) := by
  have hc : ∀ (l : List Int), (l.map fun _ => 1).sum = l.length := fun l => by
    induction l with
    | nil => rfl
    | cons a l ih => simp only [List.map_cons, List.sum_cons, List.length_cons, ih]; omega
  refine Opens.map (Opens.struct (sz := 21) Tryd.underlying44 (by kernel_rfl) (OpensFs.cons (s := 1) rfl (by kernel_rfl) (Opens.int Tryd.underlying31) (OpensFs.cons (s := 1) rfl (by kernel_rfl) (Opens.slice Tryd.underlying40 (show Tryd.prog.cellsOf T_int = 1 by kernel_rfl) (by decide) (Opens.int Tryd.underlying3))
    (OpensFs.cons (s := 4) rfl (by kernel_rfl) (Opens.ints4 Tryd.underlying27 Tryd.underlying3 (by kernel_rfl) (by kernel_rfl)) (OpensFs.cons (s := 1) rfl (by kernel_rfl) (Opens.bool Tryd.underlying4) (OpensFs.cons (s := 13) rfl (by kernel_rfl) opens_pax
    (OpensFs.cons (s := 1) rfl (by kernel_rfl) (Opens.str Tryd.underlying9) OpensFs.nil)))))))
    (fun x => ⟨x.1, x.2.1, x.2.2.1.1, x.2.2.1.2.1, x.2.2.1.2.2.1, x.2.2.1.2.2.2, x.2.2.2.1, x.2.2.2.2.1, x.2.2.2.2.2.1⟩) ?_ (fun x => by simp only [hc]; omega)
  intro W cs x h
  obtain ⟨e1, w1, h⟩ := pair_int h
  obtain ⟨v, e2, hr, h⟩ := pair_sl h
  obtain ⟨e3, ⟨w3, w4, w5, w6⟩, h⟩ := pair_ints4 h
  obtain ⟨e4, h⟩ := pair_bool h
  obtain ⟨⟨e5, w7⟩, h⟩ := h
  have e5 := takeN e5
  obtain ⟨e6, h⟩ := pair_str h
  have h : ((((((cs.drop 1).drop 1).drop 4).drop 1).drop 13).drop 1) = [] := h
  rw [h] at e6; rw [e6] at e5; rw [e5] at e4; rw [e4] at e3; rw [e3] at e2; rw [e2] at e1
  exact ⟨v, e1, hr, fun hids => ⟨wf_i64b w1, hids, w3, w4, w5, w6, w7⟩⟩
theorem rsl_ints {W : World} {a : Option Addr} {cap : Nat} {l : List Int} (h : RSl 1 (RInt .i64) W [.slice a l.length cap] l) : Arr W [] a (l.map intV) ∧ ∀ z ∈ l, i64ok z := by
  refine ⟨fun j v hj => ?_, fun z hz => ?_⟩
  · rw [List.getElem?_map] at hj
    have hk : j < l.length := by
      cases e : l[j]? with
      | none => rw [e] at hj; cases hj
      | some z => exact (List.getElem?_eq_some_iff.1 e).1
    rw [List.getElem?_eq_getElem hk] at hj
    obtain ⟨b, off, cs, h1, h2, h3, h4⟩ := h.at hk
    refine ⟨b, off, h1, by simp, ?_⟩
    have h5 := h3 0 v (by rw [h4.1]; exact hj)
    rwa [Nat.mul_one, Nat.add_zero] at h5
  · obtain ⟨i, hi, rfl⟩ := List.mem_iff_getElem.1 hz
    obtain ⟨b, off, cs, -, -, -, h4⟩ := h.at hi
    exact wf_i64b h4.2
theorem open_repAt {H : Type} {enc : TypeId × Value → H} {W : World} {v : Value} {d : DataW H} {p : List MemPlace} (hd : DataW.Trod enc Tryd.prog W 0 (fun _ => true) true T_api_Reply v d p) :
    ∃ (r : ReplyM) (a : Option Addr) (cap : Nat), v = .agg ⟨replyC r a cap⟩ ∧ (Rows.uptoBulk d ≤ 1048576 → ArgR W r a cap) := by
  obtain ⟨r, ⟨u, hcs, h1, hok⟩, hb⟩ := Trod.out hd opens_reply
  obtain ⟨a, cap, rfl, -, -, h1⟩ := h1.inv
  obtain ⟨hR, hall⟩ := rsl_ints h1
  refine ⟨r, a, cap, ?_, fun hB => ⟨hR, hok hall, by omega, by omega⟩⟩
  cases v with
  | agg cs => cases cs; simp only [Value.cells] at hcs; rw [hcs]
  | _ => simp [Value.cells] at hcs
end Go.Proofs.YthpmmfapolcaiaaDoor

/- tarmaclaw23.WireUnlike. -/
namespace Go.Proofs.YthpmmfapolcaiaaDoor
open Go Go.Eng Go.Proofs
theorem ArgC.keep {w0 w : World} {H : Heap} (hS : St w0 [] H w) {c : CmdM} {a : Option Addr} {cap : Nat} (h : ArgC w0 c a cap) : ArgC w c a cap := ⟨h.rows.keep hS, h.ok, h.nr, h.nt, h.ns⟩
theorem right_len {c : CmdM} (hok : c.ok) (h : RightC c) : (cmdB c).length ≤ 65536 := cmdB_len hok h.2.2.1 h.2.1
theorem wire_inj {c d : CmdM} (hc : c.ok) (hd : d.ok) (h1 : RightC c) (h2 : RightC d) : frameB (cmdB c) = frameB (cmdB d) ↔ c = d := by
  have l1 := right_len hc h1
  have l2 := right_len hd h2
  constructor
  · intro h
    have e := frameB_inj l1 l2 h
    have e1 := (cmdS_iff (t := cmdB c) (by omega)).2 ⟨rfl, hc, h1⟩
    have e2 := (cmdS_iff (t := cmdB d) (by omega)).2 ⟨rfl, hd, h2⟩
    rw [e, e2] at e1
    exact (Option.some.inj e1).symm
  · rintro rfl; rfl
set_option maxRecDepth 4000 in
set_option maxHeartbeats 4000000 in
theorem WireUnlike_spec {w : World} {c d : CmdM} {a b : Option Addr} {ca cb : Nat} (hc : ArgC w c a ca) (hd : ArgC w d b cb) :
    Cl Tryd.prog f_tarmaclaw23_WireUnlike [cmdV c a ca, cmdV d b cb] w fun v w' => v = .bool true ∧ St w [] [] w' := by
  have hS := St.start w
  have hcl := right_len (c := c) hc.ok
  have hdl := right_len (c := d) hd.ok
  have hinj := wire_inj (c := c) (d := d) hc.ok hd.ok
  refine en_tarmaclaw23_WireUnlike rfl ?_
  repeat (first | refine SemW.run tblOk ?_ | refine IntG.nw (by omega) ?_ | refine IntG.nu8 (by omega) ?_ | refine IntG.nu32 (by omega) ?_ | refine IntG.nu64 (by omega) ?_ | refine IntG.wr' rfl ?_ | refine Chk.mk (by omega) ?_ | (refine BrG.id ?_; first | with_reducible refine BrG.t ?_ | with_reducible refine BrG.f ?_ | with_reducible refine BrG.notG ?_ | with_reducible refine BrG.nn ?_ | with_reducible refine BrG.ns ?_ | refine BrG.pos (by omega) ?_ | refine BrG.neg (by omega) ?_ | with_reducible refine BrG.pos rfl ?_ | refine BrG.pos (by assumption) ?_ | refine BrG.neg (by assumption) ?_ | refine BrG.pos (by decide) ?_ | refine BrG.neg (by decide) ?_) | refine Chk.mk (ptr_ok tblOk rfl rfl) ?_ | refine NilG.mk (fun _ => by kernel_rfl) ?_ | refine Chk.mk (by decide) ?_)
  refine hS.al ?_
  intro b1 w1 _ hS
  repeat (first | refine SemW.run tblOk ?_ | refine IntG.nw (by omega) ?_ | refine IntG.nu8 (by omega) ?_ | refine IntG.nu32 (by omega) ?_ | refine IntG.nu64 (by omega) ?_ | refine IntG.wr' rfl ?_ | refine Chk.mk (by omega) ?_ | (refine BrG.id ?_; first | with_reducible refine BrG.t ?_ | with_reducible refine BrG.f ?_ | with_reducible refine BrG.notG ?_ | with_reducible refine BrG.nn ?_ | with_reducible refine BrG.ns ?_ | refine BrG.pos (by omega) ?_ | refine BrG.neg (by omega) ?_ | with_reducible refine BrG.pos rfl ?_ | refine BrG.pos (by assumption) ?_ | refine BrG.neg (by assumption) ?_ | refine BrG.pos (by decide) ?_ | refine BrG.neg (by decide) ?_) | refine Chk.mk (ptr_ok tblOk rfl rfl) ?_ | refine NilG.mk (fun _ => by kernel_rfl) ?_ | refine Chk.mk (by decide) ?_)
  refine hS.al ?_
  intro b2 w2 _ hS
  repeat (first | refine SemW.run tblOk ?_ | refine IntG.nw (by omega) ?_ | refine IntG.nu8 (by omega) ?_ | refine IntG.nu32 (by omega) ?_ | refine IntG.nu64 (by omega) ?_ | refine IntG.wr' rfl ?_ | refine Chk.mk (by omega) ?_ | (refine BrG.id ?_; first | with_reducible refine BrG.t ?_ | with_reducible refine BrG.f ?_ | with_reducible refine BrG.notG ?_ | with_reducible refine BrG.nn ?_ | with_reducible refine BrG.ns ?_ | refine BrG.pos (by omega) ?_ | refine BrG.neg (by omega) ?_ | with_reducible refine BrG.pos rfl ?_ | refine BrG.pos (by assumption) ?_ | refine BrG.neg (by assumption) ?_ | refine BrG.pos (by decide) ?_ | refine BrG.neg (by decide) ?_) | refine Chk.mk (ptr_ok tblOk rfl rfl) ?_ | refine NilG.mk (fun _ => by kernel_rfl) ?_ | refine Chk.mk (by decide) ?_ | refine hS.ld rfl ?_ | refine hS.ldn rfl ?_ | (refine hS.st rfl rfl ?_; intro _ hS))
  refine Cl.mono lives_spec ?_
  rintro _ w3 ⟨rfl, hS'⟩
  have hS := hS.call0 hS'
  repeat (first | refine SemW.run tblOk ?_ | refine IntG.nw (by omega) ?_ | refine IntG.nu8 (by omega) ?_ | refine IntG.nu32 (by omega) ?_ | refine IntG.nu64 (by omega) ?_ | refine IntG.wr' rfl ?_ | refine Chk.mk (by omega) ?_ | (refine BrG.id ?_; first | with_reducible refine BrG.t ?_ | with_reducible refine BrG.f ?_ | with_reducible refine BrG.notG ?_ | with_reducible refine BrG.nn ?_ | with_reducible refine BrG.ns ?_ | refine BrG.pos (by omega) ?_ | refine BrG.neg (by omega) ?_ | with_reducible refine BrG.pos rfl ?_ | refine BrG.pos (by assumption) ?_ | refine BrG.neg (by assumption) ?_ | refine BrG.pos (by decide) ?_ | refine BrG.neg (by decide) ?_) | refine Chk.mk (ptr_ok tblOk rfl rfl) ?_ | refine NilG.mk (fun _ => by kernel_rfl) ?_ | refine Chk.mk (by decide) ?_ | refine hS.ld rfl ?_ | refine hS.ldn rfl ?_ | (refine hS.st rfl rfl ?_; intro _ hS))
  refine Cl.mono (Command_spec (hc.keep hS.nil)) ?_
  rintro _ w4 ⟨rfl, hS'⟩
  have hS := hS.call0 hS'
  unfold cmdO
  by_cases hrc : RightC c
  rotate_left
  · rw [if_neg hrc]
    repeat (first | refine SemW.run tblOk ?_ | refine IntG.nw (by omega) ?_ | refine IntG.nu8 (by omega) ?_ | refine IntG.nu32 (by omega) ?_ | refine IntG.nu64 (by omega) ?_ | refine IntG.wr' rfl ?_ | refine Chk.mk (by omega) ?_ | (refine BrG.id ?_; first | with_reducible refine BrG.t ?_ | with_reducible refine BrG.f ?_ | with_reducible refine BrG.notG ?_ | with_reducible refine BrG.nn ?_ | with_reducible refine BrG.ns ?_ | refine BrG.pos (by omega) ?_ | refine BrG.neg (by omega) ?_ | with_reducible refine BrG.pos rfl ?_ | refine BrG.pos (by assumption) ?_ | refine BrG.neg (by assumption) ?_ | refine BrG.pos (by decide) ?_ | refine BrG.neg (by decide) ?_) | refine Chk.mk (ptr_ok tblOk rfl rfl) ?_ | refine NilG.mk (fun _ => by kernel_rfl) ?_ | refine Chk.mk (by decide) ?_ | refine hS.ld rfl ?_ | refine hS.ldn rfl ?_ | (refine hS.st rfl rfl ?_; intro _ hS))
    refine Cl.mono (Command_spec (hd.keep hS.nil)) ?_
    rintro _ w5 ⟨rfl, hS'⟩
    have hS := hS.call0 hS'
    unfold cmdO
    by_cases hrd : RightC d
    · rw [if_pos hrd]
      repeat (first | refine SemW.run tblOk ?_ | refine IntG.nw (by omega) ?_ | refine IntG.nu8 (by omega) ?_ | refine IntG.nu32 (by omega) ?_ | refine IntG.nu64 (by omega) ?_ | refine IntG.wr' rfl ?_ | refine Chk.mk (by omega) ?_ | (refine BrG.id ?_; first | with_reducible refine BrG.t ?_ | with_reducible refine BrG.f ?_ | with_reducible refine BrG.notG ?_ | with_reducible refine BrG.nn ?_ | with_reducible refine BrG.ns ?_ | refine BrG.pos (by omega) ?_ | refine BrG.neg (by omega) ?_ | with_reducible refine BrG.pos rfl ?_ | refine BrG.pos (by assumption) ?_ | refine BrG.neg (by assumption) ?_ | refine BrG.pos (by decide) ?_ | refine BrG.neg (by decide) ?_) | refine Chk.mk (ptr_ok tblOk rfl rfl) ?_ | refine NilG.mk (fun _ => by kernel_rfl) ?_ | refine Chk.mk (by decide) ?_ | refine hS.ld rfl ?_ | refine hS.ldn rfl ?_ | (refine hS.st rfl rfl ?_; intro _ hS))
      exact ⟨rfl, hS.nil⟩
    · rw [if_neg hrd]
      repeat (first | refine SemW.run tblOk ?_ | refine IntG.nw (by omega) ?_ | refine IntG.nu8 (by omega) ?_ | refine IntG.nu32 (by omega) ?_ | refine IntG.nu64 (by omega) ?_ | refine IntG.wr' rfl ?_ | refine Chk.mk (by omega) ?_ | (refine BrG.id ?_; first | with_reducible refine BrG.t ?_ | with_reducible refine BrG.f ?_ | with_reducible refine BrG.notG ?_ | with_reducible refine BrG.nn ?_ | with_reducible refine BrG.ns ?_ | refine BrG.pos (by omega) ?_ | refine BrG.neg (by omega) ?_ | with_reducible refine BrG.pos rfl ?_ | refine BrG.pos (by assumption) ?_ | refine BrG.neg (by assumption) ?_ | refine BrG.pos (by decide) ?_ | refine BrG.neg (by decide) ?_) | refine Chk.mk (ptr_ok tblOk rfl rfl) ?_ | refine NilG.mk (fun _ => by kernel_rfl) ?_ | refine Chk.mk (by decide) ?_ | refine hS.ld rfl ?_ | refine hS.ldn rfl ?_ | (refine hS.st rfl rfl ?_; intro _ hS))
      exact ⟨rfl, hS.nil⟩
  rw [if_pos hrc]
  repeat (first | refine SemW.run tblOk ?_ | refine IntG.nw (by omega) ?_ | refine IntG.nu8 (by omega) ?_ | refine IntG.nu32 (by omega) ?_ | refine IntG.nu64 (by omega) ?_ | refine IntG.wr' rfl ?_ | refine Chk.mk (by omega) ?_ | (refine BrG.id ?_; first | with_reducible refine BrG.t ?_ | with_reducible refine BrG.f ?_ | with_reducible refine BrG.notG ?_ | with_reducible refine BrG.nn ?_ | with_reducible refine BrG.ns ?_ | refine BrG.pos (by omega) ?_ | refine BrG.neg (by omega) ?_ | with_reducible refine BrG.pos rfl ?_ | refine BrG.pos (by assumption) ?_ | refine BrG.neg (by assumption) ?_ | refine BrG.pos (by decide) ?_ | refine BrG.neg (by decide) ?_) | refine Chk.mk (ptr_ok tblOk rfl rfl) ?_ | refine NilG.mk (fun _ => by kernel_rfl) ?_ | refine Chk.mk (by decide) ?_ | refine hS.ld rfl ?_ | refine hS.ldn rfl ?_ | (refine hS.st rfl rfl ?_; intro _ hS))
  refine Cl.mono (Command_spec (hd.keep hS.nil)) ?_
  rintro _ w5 ⟨rfl, hS'⟩
  have hS := hS.call0 hS'
  unfold cmdO
  by_cases hrd : RightC d
  rotate_left
  · rw [if_neg hrd]
    repeat (first | refine SemW.run tblOk ?_ | refine IntG.nw (by omega) ?_ | refine IntG.nu8 (by omega) ?_ | refine IntG.nu32 (by omega) ?_ | refine IntG.nu64 (by omega) ?_ | refine IntG.wr' rfl ?_ | refine Chk.mk (by omega) ?_ | (refine BrG.id ?_; first | with_reducible refine BrG.t ?_ | with_reducible refine BrG.f ?_ | with_reducible refine BrG.notG ?_ | with_reducible refine BrG.nn ?_ | with_reducible refine BrG.ns ?_ | refine BrG.pos (by omega) ?_ | refine BrG.neg (by omega) ?_ | with_reducible refine BrG.pos rfl ?_ | refine BrG.pos (by assumption) ?_ | refine BrG.neg (by assumption) ?_ | refine BrG.pos (by decide) ?_ | refine BrG.neg (by decide) ?_) | refine Chk.mk (ptr_ok tblOk rfl rfl) ?_ | refine NilG.mk (fun _ => by kernel_rfl) ?_ | refine Chk.mk (by decide) ?_ | refine hS.ld rfl ?_ | refine hS.ldn rfl ?_ | (refine hS.st rfl rfl ?_; intro _ hS))
    exact ⟨rfl, hS.nil⟩
  rw [if_pos hrd]
  have hinj := hinj hrc hrd
  generalize frameB (cmdB c) = x at hinj
  generalize frameB (cmdB d) = y at hinj
  repeat (first | refine SemW.run tblOk ?_ | refine IntG.nw (by omega) ?_ | refine IntG.nu8 (by omega) ?_ | refine IntG.nu32 (by omega) ?_ | refine IntG.nu64 (by omega) ?_ | refine IntG.wr' rfl ?_ | refine Chk.mk (by omega) ?_ | (refine BrG.id ?_; first | with_reducible refine BrG.t ?_ | with_reducible refine BrG.f ?_ | with_reducible refine BrG.notG ?_ | with_reducible refine BrG.nn ?_ | with_reducible refine BrG.ns ?_ | refine BrG.pos (by omega) ?_ | refine BrG.neg (by omega) ?_ | with_reducible refine BrG.pos rfl ?_ | refine BrG.pos (by assumption) ?_ | refine BrG.neg (by assumption) ?_ | refine BrG.pos (by decide) ?_ | refine BrG.neg (by decide) ?_) | refine Chk.mk (ptr_ok tblOk rfl rfl) ?_ | refine NilG.mk (fun _ => by kernel_rfl) ?_ | refine Chk.mk (by decide) ?_ | refine hS.ld rfl ?_ | refine hS.ldn rfl ?_ | (refine hS.st rfl rfl ?_; intro _ hS))
  refine Cl.mono (Same23_spec (x := c) (y := d) ⟨(hc.rows.keep hS.nil), (hd.rows.keep hS.nil), Nat.le_trans hc.nr (by decide)⟩) ?_
  rintro _ w6 ⟨rfl, hS'⟩
  have hS := hS.call0 hS'
  repeat (first | refine SemW.run tblOk ?_ | refine IntG.nw (by omega) ?_ | refine IntG.nu8 (by omega) ?_ | refine IntG.nu32 (by omega) ?_ | refine IntG.nu64 (by omega) ?_ | refine IntG.wr' rfl ?_ | refine Chk.mk (by omega) ?_ | (refine BrG.id ?_; first | with_reducible refine BrG.t ?_ | with_reducible refine BrG.f ?_ | with_reducible refine BrG.notG ?_ | with_reducible refine BrG.nn ?_ | with_reducible refine BrG.ns ?_ | refine BrG.pos (by omega) ?_ | refine BrG.neg (by omega) ?_ | with_reducible refine BrG.pos rfl ?_ | refine BrG.pos (by assumption) ?_ | refine BrG.neg (by assumption) ?_ | refine BrG.pos (by decide) ?_ | refine BrG.neg (by decide) ?_) | refine Chk.mk (ptr_ok tblOk rfl rfl) ?_ | refine NilG.mk (fun _ => by kernel_rfl) ?_ | refine Chk.mk (by decide) ?_ | refine hS.ld rfl ?_ | refine hS.ldn rfl ?_ | (refine hS.st rfl rfl ?_; intro _ hS))
  refine Chk.mk (by kernel_rfl) ?_
  repeat (first | refine SemW.run tblOk ?_ | refine IntG.nw (by omega) ?_ | refine IntG.nu8 (by omega) ?_ | refine IntG.nu32 (by omega) ?_ | refine IntG.nu64 (by omega) ?_ | refine IntG.wr' rfl ?_ | refine Chk.mk (by omega) ?_ | (refine BrG.id ?_; first | with_reducible refine BrG.t ?_ | with_reducible refine BrG.f ?_ | with_reducible refine BrG.notG ?_ | with_reducible refine BrG.nn ?_ | with_reducible refine BrG.ns ?_ | refine BrG.pos (by omega) ?_ | refine BrG.neg (by omega) ?_ | with_reducible refine BrG.pos rfl ?_ | refine BrG.pos (by assumption) ?_ | refine BrG.neg (by assumption) ?_ | refine BrG.pos (by decide) ?_ | refine BrG.neg (by decide) ?_) | refine Chk.mk (ptr_ok tblOk rfl rfl) ?_ | refine NilG.mk (fun _ => by kernel_rfl) ?_ | refine Chk.mk (by decide) ?_ | refine hS.ld rfl ?_ | refine hS.ldn rfl ?_ | (refine hS.st rfl rfl ?_; intro _ hS))
  refine ⟨?_, hS.nil⟩
  rw [Value.bool.injEq, beq_iff_eq, decide_eq_decide]
  exact hinj
end Go.Proofs.YthpmmfapolcaiaaDoor
