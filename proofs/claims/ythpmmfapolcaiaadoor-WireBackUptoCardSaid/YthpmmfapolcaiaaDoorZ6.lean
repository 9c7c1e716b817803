/- Texts of this claim, one behind the other. -/
import Derived.Test.YthpmmfapolcaiaaDoorZ5
import Derived.Test.YthpmmfapolcaiaaDoorZ4
import Derived.Test.YthpmmfapolcaiaaDoorZ3
import Derived.Test.YthpmmfapolcaiaaDoorRows
import Derived.Stop.LaidErr
import Derived.LaidLaws
/- Commands and replies handed in, opened. -/
namespace Go.Proofs.YthpmmfapolcaiaaDoor
open Go Go.Eng Go.Proofs
open Go.ChangeShapes Go.WideShapes Go.ChangeAt Go.RowKit
def RCmd : CellR CmdM := fun W cs c => ∃ v, cs = [.int .i64 c.kind, .int .i64 c.req, .int .i64 c.id, .int .i64 c.fl, .int .i64 c.eq, .int .i64 c.cls, .int .i64 c.wcab, .bool c.fit, .bool c.inf, .bool c.vol, .bool c.stb, .int .i64 c.num, .int .u8 c.lt, v, .int .i64 c.l0, .int .i64 c.l1, .int .i64 c.l2, .int .i64 c.l3, Str c.text] ∧ RSl 5 RRow W [v] c.rows ∧ (∀ rs, c.rows = rs → (∀ r ∈ rs, r.ok) → c.ok)
theorem opens_cmd : Opens Tryd.prog T_api_Command RCmd (fun c => (c.rows.map fun r => r.seats.length + 6).sum + c.text.length + 3) := by
  refine Opens.map (Opens.struct (sz := 19) Tryd.underlying29 (by kernel_rfl) (OpensFs.cons (s := 1) rfl (by kernel_rfl) (Opens.int Tryd.underlying3) (OpensFs.cons (s := 1) rfl (by kernel_rfl) (Opens.int Tryd.underlying3) (OpensFs.cons (s := 1) rfl (by kernel_rfl) (Opens.int Tryd.underlying3)
    (OpensFs.cons (s := 1) rfl (by kernel_rfl) (Opens.int Tryd.underlying3) (OpensFs.cons (s := 1) rfl (by kernel_rfl) (Opens.int Tryd.underlying3) (OpensFs.cons (s := 1) rfl (by kernel_rfl) (Opens.int Tryd.underlying3) (OpensFs.cons (s := 3) rfl (by kernel_rfl) opens_who
    (OpensFs.cons (s := 1) rfl (by kernel_rfl) (Opens.bool Tryd.underlying4) (OpensFs.cons (s := 1) rfl (by kernel_rfl) (Opens.bool Tryd.underlying4) (OpensFs.cons (s := 2) rfl (by kernel_rfl) opens_seatC
    (OpensFs.cons (s := 1) rfl (by kernel_rfl) (Opens.slice Tryd.underlying26 (show Tryd.prog.cellsOf T_api_Row = 5 by kernel_rfl) (by decide) opens_row) (OpensFs.cons (s := 4) rfl (by kernel_rfl) (Opens.ints4 Tryd.underlying27 Tryd.underlying3 (by kernel_rfl) (by kernel_rfl))
    (OpensFs.cons (s := 1) rfl (by kernel_rfl) (Opens.str Tryd.underlying9) OpensFs.nil))))))))))))))
    (fun x => ⟨x.1, x.2.1, x.2.2.1, x.2.2.2.1, x.2.2.2.2.1, x.2.2.2.2.2.1, x.2.2.2.2.2.2.1.1, x.2.2.2.2.2.2.1.2.1, x.2.2.2.2.2.2.1.2.2, x.2.2.2.2.2.2.2.1, x.2.2.2.2.2.2.2.2.1, x.2.2.2.2.2.2.2.2.2.1.1, x.2.2.2.2.2.2.2.2.2.1.2, x.2.2.2.2.2.2.2.2.2.2.1,
      x.2.2.2.2.2.2.2.2.2.2.2.1.1, x.2.2.2.2.2.2.2.2.2.2.2.1.2.1, x.2.2.2.2.2.2.2.2.2.2.2.1.2.2.1, x.2.2.2.2.2.2.2.2.2.2.2.1.2.2.2, x.2.2.2.2.2.2.2.2.2.2.2.2.1⟩) ?_ (fun x => by (try simp only); omega)
  intro W cs x h
  obtain ⟨e1, w1, h⟩ := pair_int h
  obtain ⟨e2, w2, h⟩ := pair_int h
  obtain ⟨e3, w3, h⟩ := pair_int h
  obtain ⟨e4, w4, h⟩ := pair_int h
  obtain ⟨e5, w5, h⟩ := pair_int h
  obtain ⟨e6, w6, h⟩ := pair_int h
  obtain ⟨⟨e7, w7⟩, h⟩ := h
  have e7 := takeN e7
  obtain ⟨e8, h⟩ := pair_bool h
  obtain ⟨e9, h⟩ := pair_bool h
  obtain ⟨⟨e10, w10, w11⟩, h⟩ := h
  have e10 := takeN e10
  obtain ⟨v, e11, hr, h⟩ := pair_sl h
  obtain ⟨e12, ⟨w12, w13, w14, w15⟩, h⟩ := pair_ints4 h
  obtain ⟨e13, h⟩ := pair_str h
  have h : (((((((((((((cs.drop 1).drop 1).drop 1).drop 1).drop 1).drop 1).drop 3).drop 1).drop 1).drop 2).drop 1).drop 4).drop 1) = [] := h
  rw [h] at e13; rw [e13] at e12; rw [e12] at e11; rw [e11] at e10; rw [e10] at e9; rw [e9] at e8; rw [e8] at e7; rw [e7] at e6; rw [e6] at e5; rw [e5] at e4; rw [e4] at e3; rw [e3] at e2; rw [e2] at e1
  exact ⟨v, e1, hr, fun rs hrs hall => ⟨wf_i64b w1, wf_i64b w2, wf_i64b w3, wf_i64b w4, wf_i64b w5, wf_i64b w6, w7, w10, w11, (by rw [hrs]; exact hall), w12, w13, w14, w15⟩⟩
theorem rsl_rows {W : World} {a : Option Addr} {cap : Nat} {rs : List RowM} (h : RSl 5 RRow W [.slice a rs.length cap] rs) : RowsAt W a cap rs ∧ ∀ r ∈ rs, r.ok := by
  refine ⟨⟨fun j v hj => ?_, ?_⟩, fun r hr => ?_⟩
  · have hl := flatRow_len rs
    have hjl := (List.getElem?_eq_some_iff.1 hj).1
    have hk : j / 5 < rs.length := by omega
    obtain ⟨b, off, cs, h1, h2, h3, h4, -⟩ := h.at hk
    refine ⟨b, off, h1, by simp, ?_⟩
    have := h3 (j % 5) v (by rw [h4, ← flatRow_at rs (j / 5) hk (j % 5) (by omega), show j / 5 * 5 + j % 5 = j by omega]; exact hj)
    rw [show j / 5 * 5 + j % 5 = j by omega] at this
    exact this
  · obtain ⟨a', cap', h1, h2, -⟩ := h.ex
    have : cap = cap' := by simpa using (List.cons.inj h1).1 |> fun h => (Value.slice.inj h).2.2
    omega
  · obtain ⟨i, hi, rfl⟩ := List.mem_iff_getElem.1 hr
    obtain ⟨b, off, cs, -, -, -, -, h5⟩ := h.at hi
    exact h5
theorem seats_sum {rs : List RowM} : ∀ r ∈ rs, r.seats.length + 6 ≤ (rs.map fun r => r.seats.length + 6).sum := fun r hr => by
  obtain ⟨i, hi, rfl⟩ := List.mem_iff_getElem.1 hr
  exact rowsW_at rs i hi
theorem open_cmdAt {H : Type} {enc : TypeId × Value → H} {W : World} {v : Value} {d : DataW H} {p : List MemPlace} (hd : DataW.Trod enc Tryd.prog W 0 (fun _ => true) true T_api_Command v d p) :
    ∃ (c : CmdM) (a : Option Addr) (cap : Nat), v = cmdV c a cap ∧ (Rows.uptoBulk d ≤ 1048576 → ArgC W c a cap) := by
  obtain ⟨c, ⟨u, hcs, h1, hok⟩, hb⟩ := Trod.out hd opens_cmd
  obtain ⟨a, cap, rfl, -, -, h1⟩ := h1.inv
  obtain ⟨hR, hall⟩ := rsl_rows h1
  refine ⟨c, a, cap, ?_, fun hB => ⟨hR, hok _ rfl hall, ?_, by omega, fun r hr => ?_⟩⟩
  · cases v with
    | agg cs => cases cs; simp only [Value.cells] at hcs; rw [hcs]
    | _ => simp [Value.cells] at hcs
  · have := rowsW_len c.rows
    unfold rowsW at this
    omega
  · have := seats_sum (rs := c.rows) r hr
    omega
def RReply : CellR ReplyM := fun W cs r => ∃ v, cs = [.int .i64 r.code, v, .int .i64 r.n0, .int .i64 r.n1, .int .i64 r.n2, .int .i64 r.n3, .bool r.over, .int .i64 r.pax.id, .int .i64 r.pax.flight, .int .i64 r.pax.cab, .bool r.pax.fit, .bool r.pax.infant, .bool r.pax.vol, .bool r.pax.stb, .int .i64 r.pax.cls, .int .i64 r.pax.status, .int .i64 r.pax.tick, .int .i64 r.pax.pass, .int .i64 r.pax.num, .int .u8 r.pax.c, Str r.text] ∧ RSl 1 (RInt .i64) W [v] r.ids ∧ ((∀ z ∈ r.ids, i64ok z) → r.ok)
theorem opens_reply : Opens Tryd.prog T_api_Reply RReply (fun r => r.ids.length + r.text.length) := by
  have hc : ∀ (l : List Int), (l.map fun _ => 1).sum = l.length := fun l => by
    induction l with
    | nil => rfl
    | cons a l ih => simp only [List.map_cons, List.sum_cons, List.length_cons, ih]; omega
  refine Opens.map (Opens.struct (sz := 21) Tryd.underlying44 (by kernel_rfl) (OpensFs.cons (s := 1) rfl (by kernel_rfl) (Opens.int Tryd.underlying31) (OpensFs.cons (s := 1) rfl (by kernel_rfl) (Opens.slice Tryd.underlying40 (show Tryd.prog.cellsOf T_int = 1 by kernel_rfl) (by decide) (Opens.int Tryd.underlying3))
    (OpensFs.cons (s := 4) rfl (by kernel_rfl) (Opens.ints4 Tryd.underlying27 Tryd.underlying3 (by kernel_rfl) (by kernel_rfl)) (OpensFs.cons (s := 1) rfl (by kernel_rfl) (Opens.bool Tryd.underlying4) (OpensFs.cons (s := 13) rfl (by kernel_rfl) opens_pax
    (OpensFs.cons (s := 1) rfl (by kernel_rfl) (Opens.str Tryd.underlying9) OpensFs.nil)))))))
    (fun x => ⟨x.1, x.2.1, x.2.2.1.1, x.2.2.1.2.1, x.2.2.1.2.2.1, x.2.2.1.2.2.2, x.2.2.2.1, x.2.2.2.2.1, x.2.2.2.2.2.1⟩) ?_ (fun x => by simp only [hc]; omega)
  intro W cs x h
  obtain ⟨e1, w1, h⟩ := pair_int h
  obtain ⟨v, e2, hr, h⟩ := pair_sl h
  obtain ⟨e3, ⟨w3, w4, w5, w6⟩, h⟩ := pair_ints4 h
  obtain ⟨e4, h⟩ := pair_bool h
  obtain ⟨⟨e5, w7⟩, h⟩ := h
  have e5 := takeN e5
  obtain ⟨e6, h⟩ := pair_str h
  have h : ((((((cs.drop 1).drop 1).drop 4).drop 1).drop 13).drop 1) = [] := h
  rw [h] at e6; rw [e6] at e5; rw [e5] at e4; rw [e4] at e3; rw [e3] at e2; rw [e2] at e1
  exact ⟨v, e1, hr, fun hids => ⟨wf_i64b w1, hids, w3, w4, w5, w6, w7⟩⟩
theorem rsl_ints {W : World} {a : Option Addr} {cap : Nat} {l : List Int} (h : RSl 1 (RInt .i64) W [.slice a l.length cap] l) : Arr W [] a (l.map intV) ∧ ∀ z ∈ l, i64ok z := by
  refine ⟨fun j v hj => ?_, fun z hz => ?_⟩
  · rw [List.getElem?_map] at hj
    have hk : j < l.length := by
      cases e : l[j]? with
      | none => rw [e] at hj; cases hj
      | some z => exact (List.getElem?_eq_some_iff.1 e).1
    rw [List.getElem?_eq_getElem hk] at hj
    obtain ⟨b, off, cs, h1, h2, h3, h4⟩ := h.at hk
    refine ⟨b, off, h1, by simp, ?_⟩
    have h5 := h3 0 v (by rw [h4.1]; exact hj)
    rwa [Nat.mul_one, Nat.add_zero] at h5
  · obtain ⟨i, hi, rfl⟩ := List.mem_iff_getElem.1 hz
    obtain ⟨b, off, cs, -, -, -, h4⟩ := h.at hi
    exact wf_i64b h4.2
theorem open_repAt {H : Type} {enc : TypeId × Value → H} {W : World} {v : Value} {d : DataW H} {p : List MemPlace} (hd : DataW.Trod enc Tryd.prog W 0 (fun _ => true) true T_api_Reply v d p) :
    ∃ (r : ReplyM) (a : Option Addr) (cap : Nat), v = .agg ⟨replyC r a cap⟩ ∧ (Rows.uptoBulk d ≤ 1048576 → ArgR W r a cap) := by
  obtain ⟨r, ⟨u, hcs, h1, hok⟩, hb⟩ := Trod.out hd opens_reply
  obtain ⟨a, cap, rfl, -, -, h1⟩ := h1.inv
  obtain ⟨hR, hall⟩ := rsl_ints h1
  refine ⟨r, a, cap, ?_, fun hB => ⟨hR, hok hall, by omega, by omega⟩⟩
  cases v with
  | agg cs => cases cs; simp only [Value.cells] at hcs; rw [hcs]
  | _ => simp [Value.cells] at hcs
end Go.Proofs.YthpmmfapolcaiaaDoor

/- tarmaclaw23.WireUnlike. -/
namespace Go.Proofs.YthpmmfapolcaiaaDoor
open Go Go.Eng Go.Proofs
theorem ArgC.keep {w0 w : World} {H : Heap} (hS : St w0 [] H w) {c : CmdM} {a : Option Addr} {cap : Nat} (h : ArgC w0 c a cap) : ArgC w c a cap := ⟨h.rows.keep hS, h.ok, h.nr, h.nt, h.ns⟩
theorem right_len {c : CmdM} (hok : c.ok) (h : RightC c) : (cmdB c).length ≤ 65536 := cmdB_len hok h.2.2.1 h.2.1
theorem wire_inj {c d : CmdM} (hc : c.ok) (hd : d.ok) (h1 : RightC c) (h2 : RightC d) : frameB (cmdB c) = frameB (cmdB d) ↔ c = d := by
  have l1 := right_len hc h1
  have l2 := right_len hd h2
  constructor
  · intro h
    have e := frameB_inj l1 l2 h
    have e1 := (cmdS_iff (t := cmdB c) (by omega)).2 ⟨rfl, hc, h1⟩
    have e2 := (cmdS_iff (t := cmdB d) (by omega)).2 ⟨rfl, hd, h2⟩
    rw [e, e2] at e1
    exact (Option.some.inj e1).symm
  · rintro rfl; rfl
set_option maxRecDepth 4000 in
set_option maxHeartbeats 4000000 in
theorem WireUnlike_spec {w : World} {c d : CmdM} {a b : Option Addr} {ca cb : Nat} (hc : ArgC w c a ca) (hd : ArgC w d b cb) :
    Cl Tryd.prog f_tarmaclaw23_WireUnlike [cmdV c a ca, cmdV d b cb] w fun v w' => v = .bool true ∧ St w [] [] w' := by
  have hS := St.start w
  have hcl := right_len (c := c) hc.ok
  have hdl := right_len (c := d) hd.ok
  have hinj := wire_inj (c := c) (d := d) hc.ok hd.ok
  refine en_tarmaclaw23_WireUnlike rfl ?_
  repeat (first | refine SemW.run tblOk ?_ | refine IntG.nw (by omega) ?_ | refine IntG.nu8 (by omega) ?_ | refine IntG.nu32 (by omega) ?_ | refine IntG.nu64 (by omega) ?_ | refine IntG.wr' rfl ?_ | refine Chk.mk (by omega) ?_ | (refine BrG.id ?_; first | with_reducible refine BrG.t ?_ | with_reducible refine BrG.f ?_ | with_reducible refine BrG.notG ?_ | with_reducible refine BrG.nn ?_ | with_reducible refine BrG.ns ?_ | refine BrG.pos (by omega) ?_ | refine BrG.neg (by omega) ?_ | with_reducible refine BrG.pos rfl ?_ | refine BrG.pos (by assumption) ?_ | refine BrG.neg (by assumption) ?_ | refine BrG.pos (by decide) ?_ | refine BrG.neg (by decide) ?_) | refine Chk.mk (ptr_ok tblOk rfl rfl) ?_ | refine NilG.mk (fun _ => by kernel_rfl) ?_ | refine Chk.mk (by decide) ?_)
  refine hS.al ?_
  intro b1 w1 _ hS
  repeat (first | refine SemW.run tblOk ?_ | refine IntG.nw (by omega) ?_ | refine IntG.nu8 (by omega) ?_ | refine IntG.nu32 (by omega) ?_ | refine IntG.nu64 (by omega) ?_ | refine IntG.wr' rfl ?_ | refine Chk.mk (by omega) ?_ | (refine BrG.id ?_; first | with_reducible refine BrG.t ?_ | with_reducible refine BrG.f ?_ | with_reducible refine BrG.notG ?_ | with_reducible refine BrG.nn ?_ | with_reducible refine BrG.ns ?_ | refine BrG.pos (by omega) ?_ | refine BrG.neg (by omega) ?_ | with_reducible refine BrG.pos rfl ?_ | refine BrG.pos (by assumption) ?_ | refine BrG.neg (by assumption) ?_ | refine BrG.pos (by decide) ?_ | refine BrG.neg (by decide) ?_) | refine Chk.mk (ptr_ok tblOk rfl rfl) ?_ | refine NilG.mk (fun _ => by kernel_rfl) ?_ | refine Chk.mk (by decide) ?_)
  refine hS.al ?_
  intro b2 w2 _ hS
  repeat (first | refine SemW.run tblOk ?_ | refine IntG.nw (by omega) ?_ | refine IntG.nu8 (by omega) ?_ | refine IntG.nu32 (by omega) ?_ | refine IntG.nu64 (by omega) ?_ | refine IntG.wr' rfl ?_ | refine Chk.mk (by omega) ?_ | (refine BrG.id ?_; first | with_reducible refine BrG.t ?_ | with_reducible refine BrG.f ?_ | with_reducible refine BrG.notG ?_ | with_reducible refine BrG.nn ?_ | with_reducible refine BrG.ns ?_ | refine BrG.pos (by omega) ?_ | refine BrG.neg (by omega) ?_ | with_reducible refine BrG.pos rfl ?_ | refine BrG.pos (by assumption) ?_ | refine BrG.neg (by assumption) ?_ | refine BrG.pos (by decide) ?_ | refine BrG.neg (by decide) ?_) | refine Chk.mk (ptr_ok tblOk rfl rfl) ?_ | refine NilG.mk (fun _ => by kernel_rfl) ?_ | refine Chk.mk (by decide) ?_ | refine hS.ld rfl ?_ | refine hS.ldn rfl ?_ | (refine hS.st rfl rfl ?_; intro _ hS))
  refine Cl.mono lives_spec ?_
  rintro _ w3 ⟨rfl, hS'⟩
  have hS := hS.call0 hS'
  repeat (first | refine SemW.run tblOk ?_ | refine IntG.nw (by omega) ?_ | refine IntG.nu8 (by omega) ?_ | refine IntG.nu32 (by omega) ?_ | refine IntG.nu64 (by omega) ?_ | refine IntG.wr' rfl ?_ | refine Chk.mk (by omega) ?_ | (refine BrG.id ?_; first | with_reducible refine BrG.t ?_ | with_reducible refine BrG.f ?_ | with_reducible refine BrG.notG ?_ | with_reducible refine BrG.nn ?_ | with_reducible refine BrG.ns ?_ | refine BrG.pos (by omega) ?_ | refine BrG.neg (by omega) ?_ | with_reducible refine BrG.pos rfl ?_ | refine BrG.pos (by assumption) ?_ | refine BrG.neg (by assumption) ?_ | refine BrG.pos (by decide) ?_ | refine BrG.neg (by decide) ?_) | refine Chk.mk (ptr_ok tblOk rfl rfl) ?_ | refine NilG.mk (fun _ => by kernel_rfl) ?_ | refine Chk.mk (by decide) ?_ | refine hS.ld rfl ?_ | refine hS.ldn rfl ?_ | (refine hS.st rfl rfl ?_; intro _ hS))
  refine Cl.mono (Command_spec (hc.keep hS.nil)) ?_
  rintro _ w4 ⟨rfl, hS'⟩
  have hS := hS.call0 hS'
  unfold cmdO
  by_cases hrc : RightC c
  rotate_left
  · rw [if_neg hrc]
    repeat (first | refine SemW.run tblOk ?_ | refine IntG.nw (by omega) ?_ | refine IntG.nu8 (by omega) ?_ | refine IntG.nu32 (by omega) ?_ | refine IntG.nu64 (by omega) ?_ | refine IntG.wr' rfl ?_ | refine Chk.mk (by omega) ?_ | (refine BrG.id ?_; first | with_reducible refine BrG.t ?_ | with_reducible refine BrG.f ?_ | with_reducible refine BrG.notG ?_ | with_reducible refine BrG.nn ?_ | with_reducible refine BrG.ns ?_ | refine BrG.pos (by omega) ?_ | refine BrG.neg (by omega) ?_ | with_reducible refine BrG.pos rfl ?_ | refine BrG.pos (by assumption) ?_ | refine BrG.neg (by assumption) ?_ | refine BrG.pos (by decide) ?_ | refine BrG.neg (by decide) ?_) | refine Chk.mk (ptr_ok tblOk rfl rfl) ?_ | refine NilG.mk (fun _ => by kernel_rfl) ?_ | refine Chk.mk (by decide) ?_ | refine hS.ld rfl ?_ | refine hS.ldn rfl ?_ | (refine hS.st rfl rfl ?_; intro _ hS))
    refine Cl.mono (Command_spec (hd.keep hS.nil)) ?_
    rintro _ w5 ⟨rfl, hS'⟩
    have hS := hS.call0 hS'
    unfold cmdO
    by_cases hrd : RightC d
    · rw [if_pos hrd]
      repeat (first | refine SemW.run tblOk ?_ | refine IntG.nw (by omega) ?_ | refine IntG.nu8 (by omega) ?_ | refine IntG.nu32 (by omega) ?_ | refine IntG.nu64 (by omega) ?_ | refine IntG.wr' rfl ?_ | refine Chk.mk (by omega) ?_ | (refine BrG.id ?_; first | with_reducible refine BrG.t ?_ | with_reducible refine BrG.f ?_ | with_reducible refine BrG.notG ?_ | with_reducible refine BrG.nn ?_ | with_reducible refine BrG.ns ?_ | refine BrG.pos (by omega) ?_ | refine BrG.neg (by omega) ?_ | with_reducible refine BrG.pos rfl ?_ | refine BrG.pos (by assumption) ?_ | refine BrG.neg (by assumption) ?_ | refine BrG.pos (by decide) ?_ | refine BrG.neg (by decide) ?_) | refine Chk.mk (ptr_ok tblOk rfl rfl) ?_ | refine NilG.mk (fun _ => by kernel_rfl) ?_ | refine Chk.mk (by decide) ?_ | refine hS.ld rfl ?_ | refine hS.ldn rfl ?_ | (refine hS.st rfl rfl ?_; intro _ hS))
      exact ⟨rfl, hS.nil⟩
    · rw [if_neg hrd]
      repeat (first | refine SemW.run tblOk ?_ | refine IntG.nw (by omega) ?_ | refine IntG.nu8 (by omega) ?_ | refine IntG.nu32 (by omega) ?_ | refine IntG.nu64 (by omega) ?_ | refine IntG.wr' rfl ?_ | refine Chk.mk (by omega) ?_ | (refine BrG.id ?_; first | with_reducible refine BrG.t ?_ | with_reducible refine BrG.f ?_ | with_reducible refine BrG.notG ?_ | with_reducible refine BrG.nn ?_ | with_reducible refine BrG.ns ?_ | refine BrG.pos (by omega) ?_ | refine BrG.neg (by omega) ?_ | with_reducible refine BrG.pos rfl ?_ | refine BrG.pos (by assumption) ?_ | refine BrG.neg (by assumption) ?_ | refine BrG.pos (by decide) ?_ | refine BrG.neg (by decide) ?_) | refine Chk.mk (ptr_ok tblOk rfl rfl) ?_ | refine NilG.mk (fun _ => by kernel_rfl) ?_ | refine Chk.mk (by decide) ?_ | refine hS.ld rfl ?_ | refine hS.ldn rfl ?_ | (refine hS.st rfl rfl ?_; intro _ hS))
      exact ⟨rfl, hS.nil⟩
  rw [if_pos hrc]
  repeat (first | refine SemW.run tblOk ?_ | refine IntG.nw (by omega) ?_ | refine IntG.nu8 (by omega) ?_ | refine IntG.nu32 (by omega) ?_ | refine IntG.nu64 (by omega) ?_ | refine IntG.wr' rfl ?_ | refine Chk.mk (by omega) ?_ | (refine BrG.id ?_; first | with_reducible refine BrG.t ?_ | with_reducible refine BrG.f ?_ | with_reducible refine BrG.notG ?_ | with_reducible refine BrG.nn ?_ | with_reducible refine BrG.ns ?_ | refine BrG.pos (by omega) ?_ | refine BrG.neg (by omega) ?_ | with_reducible refine BrG.pos rfl ?_ | refine BrG.pos (by assumption) ?_ | refine BrG.neg (by assumption) ?_ | refine BrG.pos (by decide) ?_ | refine BrG.neg (by decide) ?_) | refine Chk.mk (ptr_ok tblOk rfl rfl) ?_ | refine NilG.mk (fun _ => by kernel_rfl) ?_ | refine Chk.mk (by decide) ?_ | refine hS.ld rfl ?_ | refine hS.ldn rfl ?_ | (refine hS.st rfl rfl ?_; intro _ hS))
  refine Cl.mono (Command_spec (hd.keep hS.nil)) ?_
  rintro _ w5 ⟨rfl, hS'⟩
  have hS := hS.call0 hS'
  unfold cmdO
  by_cases hrd : RightC d
  rotate_left
  · rw [if_neg hrd]
    repeat (first | refine SemW.run tblOk ?_ | refine IntG.nw (by omega) ?_ | refine IntG.nu8 (by omega) ?_ | refine IntG.nu32 (by omega) ?_ | refine IntG.nu64 (by omega) ?_ | refine IntG.wr' rfl ?_ | refine Chk.mk (by omega) ?_ | (refine BrG.id ?_; first | with_reducible refine BrG.t ?_ | with_reducible refine BrG.f ?_ | with_reducible refine BrG.notG ?_ | with_reducible refine BrG.nn ?_ | with_reducible refine BrG.ns ?_ | refine BrG.pos (by omega) ?_ | refine BrG.neg (by omega) ?_ | with_reducible refine BrG.pos rfl ?_ | refine BrG.pos (by assumption) ?_ | refine BrG.neg (by assumption) ?_ | refine BrG.pos (by decide) ?_ | refine BrG.neg (by decide) ?_) | refine Chk.mk (ptr_ok tblOk rfl rfl) ?_ | refine NilG.mk (fun _ => by kernel_rfl) ?_ | refine Chk.mk (by decide) ?_ | refine hS.ld rfl ?_ | refine hS.ldn rfl ?_ | (refine hS.st rfl rfl ?_; intro _ hS))
    exact ⟨rfl, hS.nil⟩
  rw [if_pos hrd]
  have hinj := hinj hrc hrd
  generalize frameB (cmdB c) = x at hinj
  generalize frameB (cmdB d) = y at hinj
  repeat (first | refine SemW.run tblOk ?_ | refine IntG.nw (by omega) ?_ | refine IntG.nu8 (by omega) ?_ | refine IntG.nu32 (by omega) ?_ | refine IntG.nu64 (by omega) ?_ | refine IntG.wr' rfl ?_ | refine Chk.mk (by omega) ?_ | (refine BrG.id ?_; first | with_reducible refine BrG.t ?_ | with_reducible refine BrG.f ?_ | with_reducible refine BrG.notG ?_ | with_reducible refine BrG.nn ?_ | with_reducible refine BrG.ns ?_ | refine BrG.pos (by omega) ?_ | refine BrG.neg (by omega) ?_ | with_reducible refine BrG.pos rfl ?_ | refine BrG.pos (by assumption) ?_ | refine BrG.neg (by assumption) ?_ | refine BrG.pos (by decide) ?_ | refine BrG.neg (by decide) ?_) | refine Chk.mk (ptr_ok tblOk rfl rfl) ?_ | refine NilG.mk (fun _ => by kernel_rfl) ?_ | refine Chk.mk (by decide) ?_ | refine hS.ld rfl ?_ | refine hS.ldn rfl ?_ | (refine hS.st rfl rfl ?_; intro _ hS))
  refine Cl.mono (Same23_spec (x := c) (y := d) ⟨(hc.rows.keep hS.nil), (hd.rows.keep hS.nil), Nat.le_trans hc.nr (by decide)⟩) ?_
  rintro _ w6 ⟨rfl, hS'⟩
  have hS := hS.call0 hS'
  repeat (first | refine SemW.run tblOk ?_ | refine IntG.nw (by omega) ?_ | refine IntG.nu8 (by omega) ?_ | refine IntG.nu32 (by omega) ?_ | refine IntG.nu64 (by omega) ?_ | refine IntG.wr' rfl ?_ | refine Chk.mk (by omega) ?_ | (refine BrG.id ?_; first | with_reducible refine BrG.t ?_ | with_reducible refine BrG.f ?_ | with_reducible refine BrG.notG ?_ | with_reducible refine BrG.nn ?_ | with_reducible refine BrG.ns ?_ | refine BrG.pos (by omega) ?_ | refine BrG.neg (by omega) ?_ | with_reducible refine BrG.pos rfl ?_ | refine BrG.pos (by assumption) ?_ | refine BrG.neg (by assumption) ?_ | refine BrG.pos (by decide) ?_ | refine BrG.neg (by decide) ?_) | refine Chk.mk (ptr_ok tblOk rfl rfl) ?_ | refine NilG.mk (fun _ => by kernel_rfl) ?_ | refine Chk.mk (by decide) ?_ | refine hS.ld rfl ?_ | refine hS.ldn rfl ?_ | (refine hS.st rfl rfl ?_; intro _ hS))
  refine Chk.mk (by kernel_rfl) ?_
  repeat (first | refine SemW.run tblOk ?_ | refine IntG.nw (by omega) ?_ | refine IntG.nu8 (by omega) ?_ | refine IntG.nu32 (by omega) ?_ | refine IntG.nu64 (by omega) ?_ | refine IntG.wr' rfl ?_ | refine Chk.mk (by omega) ?_ | (refine BrG.id ?_; first | with_reducible refine BrG.t ?_ | with_reducible refine BrG.f ?_ | with_reducible refine BrG.notG ?_ | with_reducible refine BrG.nn ?_ | with_reducible refine BrG.ns ?_ | refine BrG.pos (by omega) ?_ | refine BrG.neg (by omega) ?_ | with_reducible refine BrG.pos rfl ?_ | refine BrG.pos (by assumption) ?_ | refine BrG.neg (by assumption) ?_ | refine BrG.pos (by decide) ?_ | refine BrG.neg (by decide) ?_) | refine Chk.mk (ptr_ok tblOk rfl rfl) ?_ | refine NilG.mk (fun _ => by kernel_rfl) ?_ | refine Chk.mk (by decide) ?_ | refine hS.ld rfl ?_ | refine hS.ldn rfl ?_ | (refine hS.st rfl rfl ?_; intro _ hS))
  refine ⟨?_, hS.nil⟩
  rw [Value.bool.injEq, beq_iff_eq, decide_eq_decide]
  exact hinj
end Go.Proofs.YthpmmfapolcaiaaDoor

/- Package wire: a reply's fields, read. -/
namespace Go.Proofs.YthpmmfapolcaiaaDoor
open Go Go.Eng Go.Proofs
abbrev zPax : PaxM := ⟨0, 0, 0, false, false, false, false, 0, 0, 0, 0, 0, 0⟩
abbrev zRep : ReplyM := ⟨0, [], 0, 0, 0, 0, false, zPax, []⟩
abbrev strO (x : Bytes) : Obj := .cells ⟨[Str x]⟩ T_string (0, 0)
/-- The memory of a reply that is read. -/
abbrev repH (ab rr rb sb : Nat) (r : ReplyM) (a : Option Addr) (cap : Nat) (s : RB) (x : Bytes) (Lv : Heap) : Heap := (ab, repO r a cap) :: (rr, wrdC rb s.bad) :: (rb, rdC s.t) :: (sb, strO x) :: Lv
structure II where
  l : List Int
  s : RB
  a : Option Addr
  cap : Nat
theorem wInts_next {n : Nat} {l : List Int} {s : RB} {X : List Int × RB} (hl : l.length < n) (hx : (l ++ (wInts (n - l.length) s).1, (wInts (n - l.length) s).2) = X) :
    ((l ++ [(rbInt s).1]) ++ (wInts (n - (l ++ [(rbInt s).1]).length) (rbInt s).2).1, (wInts (n - (l ++ [(rbInt s).1]).length) (rbInt s).2).2) = X := by
  rw [show n - l.length = (n - (l ++ [(rbInt s).1]).length) + 1 by simp; omega] at hx
  rw [← hx]
  simp [wInts]
theorem wInts_cut7 (s : RB) : ∃ a b c d e f g, wInts 7 s = ([a, b, c, d, e, f, g], (wInts 7 s).2) := ⟨_, _, _, _, _, _, _, rfl⟩
theorem vec_int {l : List Int} {z : Int} {g c2 : Nat} {fill : List Value} (hfl : l.length + 1 + fill.length = c2) (hcap : l.length + 1 ≤ c2) : Vec T_int 1 (some ⟨g, 0, none⟩) (l ++ [z]).length c2 ((l ++ [z]).map intV) [(g, .cells ⟨l.map intV ++ ([intV z] ++ fill)⟩ T_int (0, 0))] := by
  have e9 : l.map intV ++ ([intV z] ++ fill) = (l ++ [z]).map intV ++ fill := by simp
  rw [e9]
  refine Vec.row g _ c2 _ fill (by simp) ?_ (by simpa using hcap)
  rw [List.length_map, List.length_append, List.length_singleton]; omega
set_option maxRecDepth 4000 in
set_option maxHeartbeats 8000000 in
theorem reply_rd {w : World} {ab rr rb sb : Nat} {s : RB} (hh : Holds (repH ab rr rb sb zRep none 0 s [] []) w) (ht : s.t.length ≤ 1048576) :
    Cl Tryd.prog f_wire_reply [.iface T_Ptr_wire_reader (ptr rr), ptr ab, ptr sb] w fun _ w' => ∃ a cap Lv, Vec T_int 1 a (wReply s).1.1.ids.length cap ((wReply s).1.1.ids.map intV) Lv ∧ St w [ab, rr, rb, sb] (repH ab rr rb sb (wReply s).1.1 a cap (wReply s).2 (wReply s).1.2 Lv) w' := by
  have hS : St w [ab, rr, rb, sb] (repH ab rr rb sb zRep none 0 s [] []) w := St.enter hh
  obtain ⟨T0, hT⟩ : ∃ T0, T0 = [ab, rr, rb, sb] := ⟨_, rfl⟩
  rw [← hT] at hS ⊢
  unfold wReply tk
  simp only
  refine en_wire_reply rfl ?_
  repeat (first | refine SemW.run tblOk ?_ | refine IntG.nw (by omega) ?_ | refine IntG.nu8 (by omega) ?_ | refine IntG.nu32 (by omega) ?_ | refine IntG.nu64 (by omega) ?_ | refine IntG.wr' rfl ?_ | refine Chk.mk (by omega) ?_ | (refine BrG.id ?_; first | with_reducible refine BrG.t ?_ | with_reducible refine BrG.f ?_ | with_reducible refine BrG.notG ?_ | with_reducible refine BrG.nn ?_ | with_reducible refine BrG.ns ?_ | refine BrG.pos (by omega) ?_ | refine BrG.neg (by omega) ?_ | with_reducible refine BrG.pos rfl ?_ | refine BrG.pos (by assumption) ?_ | refine BrG.neg (by assumption) ?_ | refine BrG.pos (by decide) ?_ | refine BrG.neg (by decide) ?_) | refine Chk.mk (ptr_ok tblOk rfl rfl) ?_ | refine NilG.mk (fun _ => by kernel_rfl) ?_ | refine Chk.mk (by decide) ?_ | refine hS.ld rfl ?_ | refine hS.ldn rfl ?_ | (refine hS.st rfl rfl ?_; intro _ hS))
  refine hS.al ?_
  intro cv w1 _ hS
  repeat (first | refine SemW.run tblOk ?_ | refine IntG.nw (by omega) ?_ | refine IntG.nu8 (by omega) ?_ | refine IntG.nu32 (by omega) ?_ | refine IntG.nu64 (by omega) ?_ | refine IntG.wr' rfl ?_ | refine Chk.mk (by omega) ?_ | (refine BrG.id ?_; first | with_reducible refine BrG.t ?_ | with_reducible refine BrG.f ?_ | with_reducible refine BrG.notG ?_ | with_reducible refine BrG.nn ?_ | with_reducible refine BrG.ns ?_ | refine BrG.pos (by omega) ?_ | refine BrG.neg (by omega) ?_ | with_reducible refine BrG.pos rfl ?_ | refine BrG.pos (by assumption) ?_ | refine BrG.neg (by assumption) ?_ | refine BrG.pos (by decide) ?_ | refine BrG.neg (by decide) ?_) | refine Chk.mk (ptr_ok tblOk rfl rfl) ?_ | refine NilG.mk (fun _ => by kernel_rfl) ?_ | refine Chk.mk (by decide) ?_ | refine hS.ld rfl ?_ | refine hS.ldn rfl ?_ | (refine hS.st rfl rfl ?_; intro _ hS))
  have hS : St w T0 ((ab, repO zRep none 0) :: (tgH cv [.int .i64 0] T_int rr rb s ++ [(sb, strO [])])) _ := hS.perm (List.Perm.swap _ _ _)
  refine hS.al ?_
  intro q w2 _ hS
  repeat (first | refine SemW.run tblOk ?_ | refine IntG.nw (by omega) ?_ | refine IntG.nu8 (by omega) ?_ | refine IntG.nu32 (by omega) ?_ | refine IntG.nu64 (by omega) ?_ | refine IntG.wr' rfl ?_ | refine Chk.mk (by omega) ?_ | (refine BrG.id ?_; first | with_reducible refine BrG.t ?_ | with_reducible refine BrG.f ?_ | with_reducible refine BrG.notG ?_ | with_reducible refine BrG.nn ?_ | with_reducible refine BrG.ns ?_ | refine BrG.pos (by omega) ?_ | refine BrG.neg (by omega) ?_ | with_reducible refine BrG.pos rfl ?_ | refine BrG.pos (by assumption) ?_ | refine BrG.neg (by assumption) ?_ | refine BrG.pos (by decide) ?_ | refine BrG.neg (by decide) ?_) | refine Chk.mk (ptr_ok tblOk rfl rfl) ?_ | refine NilG.mk (fun _ => by kernel_rfl) ?_ | refine Chk.mk (by decide) ?_ | refine hS.ld rfl ?_ | refine hS.ldn rfl ?_ | (refine hS.st rfl rfl ?_; intro _ hS))
  refine InvG.mk ⟨f_wire_reader_int, ptr rr, by kernel_rfl, ?_⟩
  refine Cl.mono (rint_spec (b := cv) (s := s) (hS.part (L := tgH cv [.int .i64 0] T_int rr rb s)) (by omega) (offs := [0]) (hS.arr (b := q) (show q ∉ [cv, rr, rb] from nodup_chunk (L := tgH cv [.int .i64 0] T_int rr rb s) hS)) (by simp) (by simp)) ?_
  rintro _ w3 hS'
  have hS := (hS.call (L := tgH cv [.int .i64 0] T_int rr rb s) hS').sub (List.sublist_cons_self _ _)
  obtain ⟨z0, hy, -⟩ := wInts_cut1 s
  have htl := wInts_tlen 1 s
  have hS : St w T0 ((ab, repO zRep none 0) :: (tgH cv (setL [.int .i64 0] [0] ((wInts 1 s).1.map intV)) T_int rr rb (wInts 1 s).2 ++ [(sb, strO [])])) _ := hS
  rw [hy] at hS ⊢
  simp only at hS ⊢
  generalize (wInts 1 s).2 = s1 at hS htl ⊢
  have hS : St w T0 ((ab, repO zRep none 0) :: (cv, .cells ⟨[.int .i64 z0]⟩ T_int (0, 0)) :: (rr, wrdC rb s1.bad) :: (rb, rdC s1.t) :: [(sb, strO [])]) _ := hS
  repeat (first | refine SemW.run tblOk ?_ | refine IntG.nw (by omega) ?_ | refine IntG.nu8 (by omega) ?_ | refine IntG.nu32 (by omega) ?_ | refine IntG.nu64 (by omega) ?_ | refine IntG.wr' rfl ?_ | refine Chk.mk (by omega) ?_ | (refine BrG.id ?_; first | with_reducible refine BrG.t ?_ | with_reducible refine BrG.f ?_ | with_reducible refine BrG.notG ?_ | with_reducible refine BrG.nn ?_ | with_reducible refine BrG.ns ?_ | refine BrG.pos (by omega) ?_ | refine BrG.neg (by omega) ?_ | with_reducible refine BrG.pos rfl ?_ | refine BrG.pos (by assumption) ?_ | refine BrG.neg (by assumption) ?_ | refine BrG.pos (by decide) ?_ | refine BrG.neg (by decide) ?_) | refine Chk.mk (ptr_ok tblOk rfl rfl) ?_ | refine NilG.mk (fun _ => by kernel_rfl) ?_ | refine Chk.mk (by decide) ?_ | refine hS.ld rfl ?_ | refine hS.ldn rfl ?_ | (refine hS.st rfl rfl ?_; intro _ hS))
  have hS : St w T0 (repH ab rr rb sb { zRep with code := z0 } none 0 s1 [] []) _ := hS.sub (List.Sublist.cons_cons _ (List.sublist_cons_self _ _))
  refine SemW.draw tblOk mixed (fun w' => St w T0 (repH ab rr rb sb { zRep with code := z0 } none 0 s1 [] []) w') [9, 10] [0, 1, 2, 3, 4, 5, 6, 7, 8, 9, 10] (by kernel_rfl) hS.drew ?_
  have hS := hS.drew
  repeat (first | refine SemW.run tblOk ?_ | refine IntG.nw (by omega) ?_ | refine IntG.nu8 (by omega) ?_ | refine IntG.nu32 (by omega) ?_ | refine IntG.nu64 (by omega) ?_ | refine IntG.wr' rfl ?_ | refine Chk.mk (by omega) ?_ | (refine BrG.id ?_; first | with_reducible refine BrG.t ?_ | with_reducible refine BrG.f ?_ | with_reducible refine BrG.notG ?_ | with_reducible refine BrG.nn ?_ | with_reducible refine BrG.ns ?_ | refine BrG.pos (by omega) ?_ | refine BrG.neg (by omega) ?_ | with_reducible refine BrG.pos rfl ?_ | refine BrG.pos (by assumption) ?_ | refine BrG.neg (by assumption) ?_ | refine BrG.pos (by decide) ?_ | refine BrG.neg (by decide) ?_) | refine Chk.mk (ptr_ok tblOk rfl rfl) ?_ | refine NilG.mk (fun _ => by kernel_rfl) ?_ | refine Chk.mk (by decide) ?_ | refine hS.ldC rfl ?_ | refine hS.ldnC rfl ?_)
  refine InvG.mk ⟨f_wire_reader_count, ptr rr, by kernel_rfl, ?_⟩
  refine Cl.mono (rcount_spec (s := s1) (hS.part (L := rdH rr rb s1)) (by omega) _) ?_
  rintro _ w5 ⟨rfl, hS'⟩
  have hS := hS.call (L := rdH rr rb s1) hS'
  have hn := wNum_le s1.t.length s1
  have htl2 := wNum_tlen s1.t.length s1
  generalize wNum s1.t.length s1 = y at hS hn htl2 ⊢
  obtain ⟨n, s2⟩ := y
  simp only at hS hn htl2 ⊢
  have hS : St w T0 (repH ab rr rb sb { zRep with code := z0, ids := [] } none 0 s2 [] []) w5 := hS
  repeat (first | refine SemW.run tblOk ?_ | refine IntG.nw (by omega) ?_ | refine IntG.nu8 (by omega) ?_ | refine IntG.nu32 (by omega) ?_ | refine IntG.nu64 (by omega) ?_ | refine IntG.wr' rfl ?_ | refine Chk.mk (by omega) ?_ | (refine BrG.id ?_; first | with_reducible refine BrG.t ?_ | with_reducible refine BrG.f ?_ | with_reducible refine BrG.notG ?_ | with_reducible refine BrG.nn ?_ | with_reducible refine BrG.ns ?_ | refine BrG.pos (by omega) ?_ | refine BrG.neg (by omega) ?_ | with_reducible refine BrG.pos rfl ?_ | refine BrG.pos (by assumption) ?_ | refine BrG.neg (by assumption) ?_ | refine BrG.pos (by decide) ?_ | refine BrG.neg (by decide) ?_) | refine Chk.mk (ptr_ok tblOk rfl rfl) ?_ | refine NilG.mk (fun _ => by kernel_rfl) ?_ | refine Chk.mk (by decide) ?_)
  refine StopW.join (fun _ : II => [(0, .iface T_Ptr_wire_reader (ptr rr)), (1, ptr ab), (2, ptr sb)])
    (fun z w' => ((z.l, z.s) = wInts n s2 ∧ z.s.t.length ≤ s2.t.length) ∧ ∃ Lv, Vec T_int 1 z.a z.l.length z.cap (z.l.map intV) Lv ∧ St w T0 (repH ab rr rb sb { zRep with code := z0, ids := z.l } z.a z.cap z.s [] Lv) w') ?_ ?_
  · refine SemW.loop (fun z : II => [(0, .iface T_Ptr_wire_reader (ptr rr)), (1, ptr ab), (2, ptr sb), (32, .int .i64 n), (33, .int .i64 z.l.length)])
      (fun z w' => (z.l.length ≤ n ∧ (z.l ++ (wInts (n - z.l.length) z.s).1, (wInts (n - z.l.length) z.s).2) = wInts n s2 ∧ z.s.t.length ≤ s2.t.length) ∧ ∃ Lv, Vec T_int 1 z.a z.l.length z.cap (z.l.map intV) Lv ∧ St w T0 (repH ab rr rb sb { zRep with code := z0, ids := z.l } z.a z.cap z.s [] Lv) w') (fun z => n - z.l.length) ⟨[], s2, none, 0⟩
      ⟨rfl, rfl, rfl, rfl, rfl, trivial⟩ ⟨⟨Nat.zero_le _, rfl, Nat.le_refl _⟩, [], Vec.nil, hS⟩ ?_
    clear hS hS'
    rintro ⟨l, s3, a, cap⟩ w6 ⟨⟨hln, hx, hst⟩, Lv, hv, hS⟩
    simp only at hln hx hst hv hS ⊢
    by_cases hlt : l.length < n
    · have hS : St w T0 ((ab, .cells ⟨[.int .i64 z0, .slice a l.length cap, .int .i64 0, .int .i64 0, .int .i64 0, .int .i64 0, .bool false, .int .i64 0, .int .i64 0, .int .i64 0, .bool false, .bool false, .bool false, .bool false, .int .i64 0, .int .i64 0, .int .i64 0, .int .i64 0, .int .i64 0, .int .u8 0, Str []]⟩ T_api_Reply (0, 0)) :: (rr, wrdC rb s3.bad) :: (rb, rdC s3.t) :: (sb, strO []) :: Lv) w6 := hS
      repeat (first | refine SemW.run tblOk ?_ | refine IntG.nw (by omega) ?_ | refine IntG.nu8 (by omega) ?_ | refine IntG.nu32 (by omega) ?_ | refine IntG.nu64 (by omega) ?_ | refine IntG.wr' rfl ?_ | refine Chk.mk (by omega) ?_ | (refine BrG.id ?_; first | with_reducible refine BrG.t ?_ | with_reducible refine BrG.f ?_ | with_reducible refine BrG.notG ?_ | with_reducible refine BrG.nn ?_ | with_reducible refine BrG.ns ?_ | refine BrG.pos (by omega) ?_ | refine BrG.neg (by omega) ?_ | with_reducible refine BrG.pos rfl ?_ | refine BrG.pos (by assumption) ?_ | refine BrG.neg (by assumption) ?_ | refine BrG.pos (by decide) ?_ | refine BrG.neg (by decide) ?_) | refine Chk.mk (ptr_ok tblOk rfl rfl) ?_ | refine NilG.mk (fun _ => by kernel_rfl) ?_ | refine Chk.mk (by decide) ?_ | refine hS.ld rfl ?_ | refine hS.ldn rfl ?_ | (refine hS.st rfl rfl ?_; intro _ hS))
      refine hS.al ?_
      intro q w7 _ hS
      repeat (first | refine SemW.run tblOk ?_ | refine IntG.nw (by omega) ?_ | refine IntG.nu8 (by omega) ?_ | refine IntG.nu32 (by omega) ?_ | refine IntG.nu64 (by omega) ?_ | refine IntG.wr' rfl ?_ | refine Chk.mk (by omega) ?_ | (refine BrG.id ?_; first | with_reducible refine BrG.t ?_ | with_reducible refine BrG.f ?_ | with_reducible refine BrG.notG ?_ | with_reducible refine BrG.nn ?_ | with_reducible refine BrG.ns ?_ | refine BrG.pos (by omega) ?_ | refine BrG.neg (by omega) ?_ | with_reducible refine BrG.pos rfl ?_ | refine BrG.pos (by assumption) ?_ | refine BrG.neg (by assumption) ?_ | refine BrG.pos (by decide) ?_ | refine BrG.neg (by decide) ?_) | refine Chk.mk (ptr_ok tblOk rfl rfl) ?_ | refine NilG.mk (fun _ => by kernel_rfl) ?_ | refine Chk.mk (by decide) ?_ | refine hS.ld rfl ?_ | refine hS.ldn rfl ?_ | (refine hS.st rfl rfl ?_; intro _ hS))
      refine St.app (sz := 1) (m := 1) tblOk rfl rfl rfl rfl hS hv (news := [intV 0]) rfl (by have := hS.arr (b := q) (T' := []) (by simp); exact this) rfl (by show (_ + _) * 8 ≤ _; omega) (by omega) ?_
      intro a2 c2 L2 w8 hv2 hS
      rcases hv2.inv with ⟨-, h0, -⟩ | ⟨g, fill, rfl, hx2, hl2, hcap, rfl⟩
      · omega
      have hfl : l.length + 1 + fill.length = c2 := by
        rw [List.length_append, List.length_map] at hl2
        simp only [List.length_singleton] at hl2
        omega
      rw [List.append_assoc] at hS
      repeat (first | refine SemW.run tblOk ?_ | refine IntG.nw (by omega) ?_ | refine IntG.nu8 (by omega) ?_ | refine IntG.nu32 (by omega) ?_ | refine IntG.nu64 (by omega) ?_ | refine IntG.wr' rfl ?_ | refine Chk.mk (by omega) ?_ | (refine BrG.id ?_; first | with_reducible refine BrG.t ?_ | with_reducible refine BrG.f ?_ | with_reducible refine BrG.notG ?_ | with_reducible refine BrG.nn ?_ | with_reducible refine BrG.ns ?_ | refine BrG.pos (by omega) ?_ | refine BrG.neg (by omega) ?_ | with_reducible refine BrG.pos rfl ?_ | refine BrG.pos (by assumption) ?_ | refine BrG.neg (by assumption) ?_ | refine BrG.pos (by decide) ?_ | refine BrG.neg (by decide) ?_) | refine Chk.mk (ptr_ok tblOk rfl rfl) ?_ | refine NilG.mk (fun _ => by kernel_rfl) ?_ | refine Chk.mk (by decide) ?_ | refine hS.ld rfl ?_ | refine hS.ldn rfl ?_ | (refine hS.st rfl rfl ?_; intro _ hS))
      have hS := hS.sub (List.sublist_cons_self _ _)
      have hS : St w T0 ((ab, .cells ⟨[.int .i64 z0, .slice (some ⟨g, 0, none⟩) (l.length + 1) c2, .int .i64 0, .int .i64 0, .int .i64 0, .int .i64 0, .bool false, .int .i64 0, .int .i64 0, .int .i64 0, .bool false, .bool false, .bool false, .bool false, .int .i64 0, .int .i64 0, .int .i64 0, .int .i64 0, .int .i64 0, .int .u8 0, Str []]⟩ T_api_Reply (0, 0)) :: (sb, strO []) :: tgH g (l.map intV ++ ([intV 0] ++ fill)) T_int rr rb s3) _ := hS.perm (List.Perm.cons _ (List.perm_append_comm (l₁ := [_, _]) (l₂ := [_, _])))
      refine SemW.draw tblOk mixed (fun w' => St w T0 ((ab, .cells ⟨[.int .i64 z0, .slice (some ⟨g, 0, none⟩) (l.length + 1) c2, .int .i64 0, .int .i64 0, .int .i64 0, .int .i64 0, .bool false, .int .i64 0, .int .i64 0, .int .i64 0, .bool false, .bool false, .bool false, .bool false, .int .i64 0, .int .i64 0, .int .i64 0, .int .i64 0, .int .i64 0, .int .u8 0, Str []]⟩ T_api_Reply (0, 0)) :: (sb, strO []) :: tgH g (l.map intV ++ ([intV 0] ++ fill)) T_int rr rb s3) w') [11] [0, 1, 2, 3, 4, 5, 6, 8, 9, 10, 7, 11] (by kernel_rfl) hS.drew ?_
      have hS := hS.drew
      repeat (first | refine SemW.run tblOk ?_ | refine IntG.nw (by omega) ?_ | refine IntG.nu8 (by omega) ?_ | refine IntG.nu32 (by omega) ?_ | refine IntG.nu64 (by omega) ?_ | refine IntG.wr' rfl ?_ | refine Chk.mk (by omega) ?_ | (refine BrG.id ?_; first | with_reducible refine BrG.t ?_ | with_reducible refine BrG.f ?_ | with_reducible refine BrG.notG ?_ | with_reducible refine BrG.nn ?_ | with_reducible refine BrG.ns ?_ | refine BrG.pos (by omega) ?_ | refine BrG.neg (by omega) ?_ | with_reducible refine BrG.pos rfl ?_ | refine BrG.pos (by assumption) ?_ | refine BrG.neg (by assumption) ?_ | refine BrG.pos (by decide) ?_ | refine BrG.neg (by decide) ?_) | refine Chk.mk (ptr_ok tblOk rfl rfl) ?_ | refine NilG.mk (fun _ => by kernel_rfl) ?_ | refine Chk.mk (by decide) ?_ | refine hS.ldC rfl ?_ | refine hS.ldnC rfl ?_)
      refine hS.al ?_
      intro q w9 _ hS
      refine Chk.mk (hS.sub (List.sublist_cons_self _ _)) ?_
      repeat (first | refine SemW.run tblOk ?_ | refine IntG.nw (by omega) ?_ | refine IntG.nu8 (by omega) ?_ | refine IntG.nu32 (by omega) ?_ | refine IntG.nu64 (by omega) ?_ | refine IntG.wr' rfl ?_ | refine Chk.mk (by omega) ?_ | (refine BrG.id ?_; first | with_reducible refine BrG.t ?_ | with_reducible refine BrG.f ?_ | with_reducible refine BrG.notG ?_ | with_reducible refine BrG.nn ?_ | with_reducible refine BrG.ns ?_ | refine BrG.pos (by omega) ?_ | refine BrG.neg (by omega) ?_ | with_reducible refine BrG.pos rfl ?_ | refine BrG.pos (by assumption) ?_ | refine BrG.neg (by assumption) ?_ | refine BrG.pos (by decide) ?_ | refine BrG.neg (by decide) ?_) | refine Chk.mk (ptr_ok tblOk rfl rfl) ?_ | refine NilG.mk (fun _ => by kernel_rfl) ?_ | refine Chk.mk (by decide) ?_ | refine hS.ldC rfl ?_ | refine hS.ldnC rfl ?_)
      refine InvG.mk ⟨f_wire_reader_int, ptr rr, by kernel_rfl, ?_⟩
      refine Cl.mono (rint_spec (b := g) (s := s3) (hS.part (L := tgH g (l.map intV ++ ([intV 0] ++ fill)) T_int rr rb s3)) (by omega) (offs := [0 + l.length * 1]) (hS.arr (b := q) (show q ∉ [g, rr, rb] from nodup_chunk (L := tgH g (l.map intV ++ ([intV 0] ++ fill)) T_int rr rb s3) hS)) (by
        intro o ho
        simp only [List.mem_cons, List.mem_nil_iff, or_false] at ho
        simp only [List.length_append, List.length_map, List.length_cons, List.length_nil]
        omega) (by simp)) ?_
      rintro _ w10 hS'
      have hS := (hS.call (L := tgH g (l.map intV ++ ([intV 0] ++ fill)) T_int rr rb s3) hS').sub (List.sublist_cons_self _ _)
      have hoff1 : [0 + l.length * 1] = [0].map fun o => (l.map intV).length + o := by simp
      have hS : St w T0 ((ab, .cells ⟨[.int .i64 z0, .slice (some ⟨g, 0, none⟩) (l.length + 1) c2, .int .i64 0, .int .i64 0, .int .i64 0, .int .i64 0, .bool false, .int .i64 0, .int .i64 0, .int .i64 0, .bool false, .bool false, .bool false, .bool false, .int .i64 0, .int .i64 0, .int .i64 0, .int .i64 0, .int .i64 0, .int .u8 0, Str []]⟩ T_api_Reply (0, 0)) :: (sb, strO []) :: tgH g (setL (l.map intV ++ ([intV 0] ++ fill)) [0 + l.length * 1] [intV (rbInt s3).1]) T_int rr rb (rbInt s3).2) _ := hS
      rw [hoff1, setL_app] at hS
      have htl4 := rbInt_len' s3
      have hxn := wInts_next hlt hx
      generalize rbInt s3 = y3 at hS htl4 hxn
      obtain ⟨z, s4⟩ := y3
      simp only at hS htl4 hxn
      have e8 : l.length + 1 = (l ++ [z]).length := by simp
      have hvn := vec_int (l := l) (z := z) (g := g) hfl hcap
      have hS := hS.perm (List.Perm.cons _ (List.perm_append_comm (l₁ := [_, _]) (l₂ := [_, _])))
      have hS : St w T0 ((ab, .cells ⟨[.int .i64 z0, .slice (some ⟨g, 0, none⟩) (l.length + 1) c2, .int .i64 0, .int .i64 0, .int .i64 0, .int .i64 0, .bool false, .int .i64 0, .int .i64 0, .int .i64 0, .bool false, .bool false, .bool false, .bool false, .int .i64 0, .int .i64 0, .int .i64 0, .int .i64 0, .int .i64 0, .int .u8 0, Str []]⟩ T_api_Reply (0, 0)) :: (rr, wrdC rb s4.bad) :: (rb, rdC s4.t) :: (sb, strO []) :: [(g, .cells ⟨l.map intV ++ ([intV z] ++ fill)⟩ T_int (0, 0))]) _ := hS
      rw [e8] at hS
      repeat (first | refine SemW.run tblOk ?_ | refine IntG.nw (by omega) ?_ | refine IntG.nu8 (by omega) ?_ | refine IntG.nu32 (by omega) ?_ | refine IntG.nu64 (by omega) ?_ | refine IntG.wr' rfl ?_ | refine Chk.mk (by omega) ?_ | (refine BrG.id ?_; first | with_reducible refine BrG.t ?_ | with_reducible refine BrG.f ?_ | with_reducible refine BrG.notG ?_ | with_reducible refine BrG.nn ?_ | with_reducible refine BrG.ns ?_ | refine BrG.pos (by omega) ?_ | refine BrG.neg (by omega) ?_ | with_reducible refine BrG.pos rfl ?_ | refine BrG.pos (by assumption) ?_ | refine BrG.neg (by assumption) ?_ | refine BrG.pos (by decide) ?_ | refine BrG.neg (by decide) ?_) | refine Chk.mk (ptr_ok tblOk rfl rfl) ?_ | refine NilG.mk (fun _ => by kernel_rfl) ?_ | refine Chk.mk (by decide) ?_)
      exact ⟨⟨l ++ [z], s4, some ⟨g, 0, none⟩, c2⟩, ⟨rfl, rfl, rfl, rfl, congrArg (Value.int .i64) (by rw [← e8]; rfl), trivial⟩, ⟨⟨by simp only; omega, hxn, by simp only; omega⟩, _, hvn, hS⟩, by simp only; omega⟩
    · have hle : n - l.length = 0 := by omega
      rw [hle] at hx
      have hx : (l, s3) = wInts n s2 := by rw [← hx]; simp [wInts]
      repeat (first | refine SemW.run tblOk ?_ | refine IntG.nw (by omega) ?_ | refine IntG.nu8 (by omega) ?_ | refine IntG.nu32 (by omega) ?_ | refine IntG.nu64 (by omega) ?_ | refine IntG.wr' rfl ?_ | refine Chk.mk (by omega) ?_ | (refine BrG.id ?_; first | with_reducible refine BrG.t ?_ | with_reducible refine BrG.f ?_ | with_reducible refine BrG.notG ?_ | with_reducible refine BrG.nn ?_ | with_reducible refine BrG.ns ?_ | refine BrG.pos (by omega) ?_ | refine BrG.neg (by omega) ?_ | with_reducible refine BrG.pos rfl ?_ | refine BrG.pos (by assumption) ?_ | refine BrG.neg (by assumption) ?_ | refine BrG.pos (by decide) ?_ | refine BrG.neg (by decide) ?_) | refine Chk.mk (ptr_ok tblOk rfl rfl) ?_ | refine NilG.mk (fun _ => by kernel_rfl) ?_ | refine Chk.mk (by decide) ?_)
      exact ⟨rfl, ⟨l, s3, a, cap⟩, ⟨rfl, rfl, rfl, trivial⟩, ⟨hx, hst⟩, Lv, hv, hS⟩
  clear hS hS'
  rintro ⟨l, s3, a, cap⟩ w6 ⟨⟨hx, hst⟩, Lv, hv, hS⟩
  simp only at hx hst hv hS
  rw [← hx]
  simp only
  clear hx
  repeat (first | refine SemW.run tblOk ?_ | refine IntG.nw (by omega) ?_ | refine IntG.nu8 (by omega) ?_ | refine IntG.nu32 (by omega) ?_ | refine IntG.nu64 (by omega) ?_ | refine IntG.wr' rfl ?_ | refine Chk.mk (by omega) ?_ | (refine BrG.id ?_; first | with_reducible refine BrG.t ?_ | with_reducible refine BrG.f ?_ | with_reducible refine BrG.notG ?_ | with_reducible refine BrG.nn ?_ | with_reducible refine BrG.ns ?_ | refine BrG.pos (by omega) ?_ | refine BrG.neg (by omega) ?_ | with_reducible refine BrG.pos rfl ?_ | refine BrG.pos (by assumption) ?_ | refine BrG.neg (by assumption) ?_ | refine BrG.pos (by decide) ?_ | refine BrG.neg (by decide) ?_) | refine Chk.mk (ptr_ok tblOk rfl rfl) ?_ | refine NilG.mk (fun _ => by kernel_rfl) ?_ | refine Chk.mk (by decide) ?_)
  refine StopW.join (fun _ : Unit => [(0, .iface T_Ptr_wire_reader (ptr rr)), (1, ptr ab), (2, ptr sb)])
    (fun _ w' => St w T0 (tgH ab (setL (replyC { zRep with code := z0, ids := l } a cap) [2, 3, 4, 5] ((wInts 4 s3).1.map intV)) T_api_Reply rr rb (wInts 4 s3).2 ++ ((sb, strO []) :: Lv)) w') ?_ ?_
  · refine SemW.loop (fun k : Nat => [(0, .iface T_Ptr_wire_reader (ptr rr)), (1, ptr ab), (2, ptr sb), (65, .int .i64 k)])
      (fun k w' => k ≤ 4 ∧ St w T0 (tgH ab (setL (replyC { zRep with code := z0, ids := l } a cap) ([2, 3, 4, 5].take k) ((wInts k s3).1.map intV)) T_api_Reply rr rb (wInts k s3).2 ++ ((sb, strO []) :: Lv)) w') (fun k => 4 - k) 0
      ⟨rfl, rfl, rfl, rfl, trivial⟩ ⟨Nat.zero_le _, hS⟩ ?_
    clear hS
    rintro k w6 ⟨hk, hS⟩
    by_cases hk4 : k < 4
    · have hsucc := wInts_succ k s3
      have htl2 := wInts_tlen k s3
      have hwl := wInts_len k s3
      have hx : [2, 3, 4, 5][k] = 2 + k * 1 := by
        match k, hk4 with
        | 0, _ => rfl
        | 1, _ => rfl
        | 2, _ => rfl
        | 3, _ => rfl
      have hset := setL_snoc ([2, 3, 4, 5].take k) ((wInts k s3).1.map intV) (replyC { zRep with code := z0, ids := l } a cap) [2, 3, 4, 5][k] (intV (rbInt (wInts k s3).2).1) (by rw [List.length_take, List.length_map, hwl]; simp; omega)
      rw [← List.take_succ_eq_append_getElem hk4, hx] at hset
      have hsl := setL_len ([2, 3, 4, 5].take k) ((wInts k s3).1.map intV) (replyC { zRep with code := z0, ids := l } a cap)
      have hfin : tgH ab (setL (replyC { zRep with code := z0, ids := l } a cap) ([2, 3, 4, 5].take (k + 1)) ((wInts (k + 1) s3).1.map intV)) T_api_Reply rr rb (wInts (k + 1) s3).2 = tgH ab ((setL (replyC { zRep with code := z0, ids := l } a cap) ([2, 3, 4, 5].take k) ((wInts k s3).1.map intV)).set (2 + k * 1) (intV (rbInt (wInts k s3).2).1)) T_api_Reply rr rb (rbInt (wInts k s3).2).2 := by
        rw [hsucc, ← hset]; simp
      have hsl : (setL (replyC { zRep with code := z0, ids := l } a cap) ([2, 3, 4, 5].take k) ((wInts k s3).1.map intV)).length = 21 := hsl
      generalize setL (replyC { zRep with code := z0, ids := l } a cap) ([2, 3, 4, 5].take k) ((wInts k s3).1.map intV) = ys at hS hfin hsl
      generalize (wInts k s3).2 = s4 at hS hfin htl2
      repeat (first | refine SemW.run tblOk ?_ | refine IntG.nw (by omega) ?_ | refine IntG.nu8 (by omega) ?_ | refine IntG.nu32 (by omega) ?_ | refine IntG.nu64 (by omega) ?_ | refine IntG.wr' rfl ?_ | refine Chk.mk (by omega) ?_ | (refine BrG.id ?_; first | with_reducible refine BrG.t ?_ | with_reducible refine BrG.f ?_ | with_reducible refine BrG.notG ?_ | with_reducible refine BrG.nn ?_ | with_reducible refine BrG.ns ?_ | refine BrG.pos (by omega) ?_ | refine BrG.neg (by omega) ?_ | with_reducible refine BrG.pos rfl ?_ | refine BrG.pos (by assumption) ?_ | refine BrG.neg (by assumption) ?_ | refine BrG.pos (by decide) ?_ | refine BrG.neg (by decide) ?_) | refine Chk.mk (ptr_ok tblOk rfl rfl) ?_ | refine NilG.mk (fun _ => by kernel_rfl) ?_ | refine Chk.mk (by decide) ?_)
      refine SemW.draw tblOk mixed (fun w' => St w T0 (tgH ab ys T_api_Reply rr rb s4 ++ ((sb, strO []) :: Lv)) w') [10] [0, 1, 2, 3, 4, 5, 7, 8, 9, 6, 10] (by kernel_rfl) hS.drew ?_
      have hS := hS.drew
      repeat (first | refine SemW.run tblOk ?_ | refine IntG.nw (by omega) ?_ | refine IntG.nu8 (by omega) ?_ | refine IntG.nu32 (by omega) ?_ | refine IntG.nu64 (by omega) ?_ | refine IntG.wr' rfl ?_ | refine Chk.mk (by omega) ?_ | (refine BrG.id ?_; first | with_reducible refine BrG.t ?_ | with_reducible refine BrG.f ?_ | with_reducible refine BrG.notG ?_ | with_reducible refine BrG.nn ?_ | with_reducible refine BrG.ns ?_ | refine BrG.pos (by omega) ?_ | refine BrG.neg (by omega) ?_ | with_reducible refine BrG.pos rfl ?_ | refine BrG.pos (by assumption) ?_ | refine BrG.neg (by assumption) ?_ | refine BrG.pos (by decide) ?_ | refine BrG.neg (by decide) ?_) | refine Chk.mk (ptr_ok tblOk rfl rfl) ?_ | refine NilG.mk (fun _ => by kernel_rfl) ?_ | refine Chk.mk (by decide) ?_ | refine hS.ldC rfl ?_ | refine hS.ldnC rfl ?_)
      refine hS.al ?_
      intro q w3 _ hS
      refine Chk.mk (hS.sub (List.sublist_cons_self _ _)) ?_
      repeat (first | refine SemW.run tblOk ?_ | refine IntG.nw (by omega) ?_ | refine IntG.nu8 (by omega) ?_ | refine IntG.nu32 (by omega) ?_ | refine IntG.nu64 (by omega) ?_ | refine IntG.wr' rfl ?_ | refine Chk.mk (by omega) ?_ | (refine BrG.id ?_; first | with_reducible refine BrG.t ?_ | with_reducible refine BrG.f ?_ | with_reducible refine BrG.notG ?_ | with_reducible refine BrG.nn ?_ | with_reducible refine BrG.ns ?_ | refine BrG.pos (by omega) ?_ | refine BrG.neg (by omega) ?_ | with_reducible refine BrG.pos rfl ?_ | refine BrG.pos (by assumption) ?_ | refine BrG.neg (by assumption) ?_ | refine BrG.pos (by decide) ?_ | refine BrG.neg (by decide) ?_) | refine Chk.mk (ptr_ok tblOk rfl rfl) ?_ | refine NilG.mk (fun _ => by kernel_rfl) ?_ | refine Chk.mk (by decide) ?_ | refine hS.ldC rfl ?_ | refine hS.ldnC rfl ?_)
      refine InvG.mk ⟨f_wire_reader_int, ptr rr, by kernel_rfl, ?_⟩
      refine Cl.mono (rint_spec (b := ab) (s := s4) (hS.part (L := tgH ab ys T_api_Reply rr rb s4)) (by omega) (offs := [2 + k * 1]) (hS.arr (b := q) (show q ∉ [ab, rr, rb] from nodup_chunk (L := tgH ab ys T_api_Reply rr rb s4) hS)) (by intro o ho; rw [List.mem_singleton] at ho; omega) (by simp)) ?_
      rintro _ w4 hS'
      have hS := (hS.call (L := tgH ab ys T_api_Reply rr rb s4) hS').sub (List.sublist_cons_self _ _)
      repeat (first | refine SemW.run tblOk ?_ | refine IntG.nw (by omega) ?_ | refine IntG.nu8 (by omega) ?_ | refine IntG.nu32 (by omega) ?_ | refine IntG.nu64 (by omega) ?_ | refine IntG.wr' rfl ?_ | refine Chk.mk (by omega) ?_ | (refine BrG.id ?_; first | with_reducible refine BrG.t ?_ | with_reducible refine BrG.f ?_ | with_reducible refine BrG.notG ?_ | with_reducible refine BrG.nn ?_ | with_reducible refine BrG.ns ?_ | refine BrG.pos (by omega) ?_ | refine BrG.neg (by omega) ?_ | with_reducible refine BrG.pos rfl ?_ | refine BrG.pos (by assumption) ?_ | refine BrG.neg (by assumption) ?_ | refine BrG.pos (by decide) ?_ | refine BrG.neg (by decide) ?_) | refine Chk.mk (ptr_ok tblOk rfl rfl) ?_ | refine NilG.mk (fun _ => by kernel_rfl) ?_ | refine Chk.mk (by decide) ?_)
      exact ⟨k + 1, ⟨rfl, rfl, rfl, rfl, trivial⟩, ⟨by omega, by rw [hfin]; exact hS⟩, by omega⟩
    · have hke : k = 4 := by omega
      subst hke
      repeat (first | refine SemW.run tblOk ?_ | refine IntG.nw (by omega) ?_ | refine IntG.nu8 (by omega) ?_ | refine IntG.nu32 (by omega) ?_ | refine IntG.nu64 (by omega) ?_ | refine IntG.wr' rfl ?_ | refine Chk.mk (by omega) ?_ | (refine BrG.id ?_; first | with_reducible refine BrG.t ?_ | with_reducible refine BrG.f ?_ | with_reducible refine BrG.notG ?_ | with_reducible refine BrG.nn ?_ | with_reducible refine BrG.ns ?_ | refine BrG.pos (by omega) ?_ | refine BrG.neg (by omega) ?_ | with_reducible refine BrG.pos rfl ?_ | refine BrG.pos (by assumption) ?_ | refine BrG.neg (by assumption) ?_ | refine BrG.pos (by decide) ?_ | refine BrG.neg (by decide) ?_) | refine Chk.mk (ptr_ok tblOk rfl rfl) ?_ | refine NilG.mk (fun _ => by kernel_rfl) ?_ | refine Chk.mk (by decide) ?_)
      exact ⟨rfl, (), ⟨rfl, rfl, rfl, trivial⟩, hS⟩
  clear hS
  rintro - w7 hS
  obtain ⟨n0, n1, n2, n3, hy⟩ := wInts_cut4 s3
  have htl5 := wInts_tlen 4 s3
  rw [hy] at hS ⊢
  simp only at hS ⊢
  generalize (wInts 4 s3).2 = s4 at hS htl5 ⊢
  have hS : St w T0 (tgH ab (replyC { zRep with code := z0, ids := l, n0 := n0, n1 := n1, n2 := n2, n3 := n3 } a cap) T_api_Reply rr rb s4 ++ ((sb, strO []) :: Lv)) _ := hS
  repeat (first | refine SemW.run tblOk ?_ | refine IntG.nw (by omega) ?_ | refine IntG.nu8 (by omega) ?_ | refine IntG.nu32 (by omega) ?_ | refine IntG.nu64 (by omega) ?_ | refine IntG.wr' rfl ?_ | refine Chk.mk (by omega) ?_ | (refine BrG.id ?_; first | with_reducible refine BrG.t ?_ | with_reducible refine BrG.f ?_ | with_reducible refine BrG.notG ?_ | with_reducible refine BrG.nn ?_ | with_reducible refine BrG.ns ?_ | refine BrG.pos (by omega) ?_ | refine BrG.neg (by omega) ?_ | with_reducible refine BrG.pos rfl ?_ | refine BrG.pos (by assumption) ?_ | refine BrG.neg (by assumption) ?_ | refine BrG.pos (by decide) ?_ | refine BrG.neg (by decide) ?_) | refine Chk.mk (ptr_ok tblOk rfl rfl) ?_ | refine NilG.mk (fun _ => by kernel_rfl) ?_ | refine Chk.mk (by decide) ?_)
  refine SemW.draw tblOk mixed (fun w' => St w T0 (tgH ab (replyC { zRep with code := z0, ids := l, n0 := n0, n1 := n1, n2 := n2, n3 := n3 } a cap) T_api_Reply rr rb s4 ++ ((sb, strO []) :: Lv)) w') [8] [0, 1, 2, 3, 5, 6, 7, 4, 8] (by kernel_rfl) hS.drew ?_
  have hS := hS.drew
  repeat (first | refine SemW.run tblOk ?_ | refine IntG.nw (by omega) ?_ | refine IntG.nu8 (by omega) ?_ | refine IntG.nu32 (by omega) ?_ | refine IntG.nu64 (by omega) ?_ | refine IntG.wr' rfl ?_ | refine Chk.mk (by omega) ?_ | (refine BrG.id ?_; first | with_reducible refine BrG.t ?_ | with_reducible refine BrG.f ?_ | with_reducible refine BrG.notG ?_ | with_reducible refine BrG.nn ?_ | with_reducible refine BrG.ns ?_ | refine BrG.pos (by omega) ?_ | refine BrG.neg (by omega) ?_ | with_reducible refine BrG.pos rfl ?_ | refine BrG.pos (by assumption) ?_ | refine BrG.neg (by assumption) ?_ | refine BrG.pos (by decide) ?_ | refine BrG.neg (by decide) ?_) | refine Chk.mk (ptr_ok tblOk rfl rfl) ?_ | refine NilG.mk (fun _ => by kernel_rfl) ?_ | refine Chk.mk (by decide) ?_ | refine hS.ldC rfl ?_ | refine hS.ldnC rfl ?_)
  refine hS.al ?_
  intro q w3 _ hS
  refine Chk.mk (hS.sub (List.sublist_cons_self _ _)) ?_
  repeat (first | refine SemW.run tblOk ?_ | refine IntG.nw (by omega) ?_ | refine IntG.nu8 (by omega) ?_ | refine IntG.nu32 (by omega) ?_ | refine IntG.nu64 (by omega) ?_ | refine IntG.wr' rfl ?_ | refine Chk.mk (by omega) ?_ | (refine BrG.id ?_; first | with_reducible refine BrG.t ?_ | with_reducible refine BrG.f ?_ | with_reducible refine BrG.notG ?_ | with_reducible refine BrG.nn ?_ | with_reducible refine BrG.ns ?_ | refine BrG.pos (by omega) ?_ | refine BrG.neg (by omega) ?_ | with_reducible refine BrG.pos rfl ?_ | refine BrG.pos (by assumption) ?_ | refine BrG.neg (by assumption) ?_ | refine BrG.pos (by decide) ?_ | refine BrG.neg (by decide) ?_) | refine Chk.mk (ptr_ok tblOk rfl rfl) ?_ | refine NilG.mk (fun _ => by kernel_rfl) ?_ | refine Chk.mk (by decide) ?_ | refine hS.ldC rfl ?_ | refine hS.ldnC rfl ?_)
  refine InvG.mk ⟨f_wire_reader_marks, ptr rr, by kernel_rfl, ?_⟩
  refine Cl.mono (rmarks_spec (b := ab) (s := s4) (hS.part (L := tgH ab (replyC { zRep with code := z0, ids := l, n0 := n0, n1 := n1, n2 := n2, n3 := n3 } a cap) T_api_Reply rr rb s4)) (by omega) (offs := [6]) (hS.arr (b := q) (show q ∉ [ab, rr, rb] from nodup_chunk (L := tgH ab (replyC { zRep with code := z0, ids := l, n0 := n0, n1 := n1, n2 := n2, n3 := n3 } a cap) T_api_Reply rr rb s4) hS)) (by simp) (by simp)) ?_
  rintro _ w4 hS'
  have hS := (hS.call (L := tgH ab (replyC { zRep with code := z0, ids := l, n0 := n0, n1 := n1, n2 := n2, n3 := n3 } a cap) T_api_Reply rr rb s4) hS').sub (List.sublist_cons_self _ _)
  obtain ⟨ov, hm⟩ := wMarks_cut1 s4
  have htl6 := wMarks_tlen 1 s4
  have hS : St w T0 (tgH ab (setL (replyC { zRep with code := z0, ids := l, n0 := n0, n1 := n1, n2 := n2, n3 := n3 } a cap) [6] ((wMarks 1 s4).1.map Value.bool)) T_api_Reply rr rb (wMarks 1 s4).2 ++ ((sb, strO []) :: Lv)) _ := hS
  rw [hm] at hS ⊢
  simp only at hS ⊢
  generalize (wMarks 1 s4).2 = s5 at hS htl6 ⊢
  have hS : St w T0 (tgH ab (replyC { zRep with code := z0, ids := l, n0 := n0, n1 := n1, n2 := n2, n3 := n3, over := ov } a cap) T_api_Reply rr rb s5 ++ ((sb, strO []) :: Lv)) _ := hS
  repeat (first | refine SemW.run tblOk ?_ | refine IntG.nw (by omega) ?_ | refine IntG.nu8 (by omega) ?_ | refine IntG.nu32 (by omega) ?_ | refine IntG.nu64 (by omega) ?_ | refine IntG.wr' rfl ?_ | refine Chk.mk (by omega) ?_ | (refine BrG.id ?_; first | with_reducible refine BrG.t ?_ | with_reducible refine BrG.f ?_ | with_reducible refine BrG.notG ?_ | with_reducible refine BrG.nn ?_ | with_reducible refine BrG.ns ?_ | refine BrG.pos (by omega) ?_ | refine BrG.neg (by omega) ?_ | with_reducible refine BrG.pos rfl ?_ | refine BrG.pos (by assumption) ?_ | refine BrG.neg (by assumption) ?_ | refine BrG.pos (by decide) ?_ | refine BrG.neg (by decide) ?_) | refine Chk.mk (ptr_ok tblOk rfl rfl) ?_ | refine NilG.mk (fun _ => by kernel_rfl) ?_ | refine Chk.mk (by decide) ?_)
  refine SemW.draw tblOk mixed (fun w' => St w T0 (tgH ab (replyC { zRep with code := z0, ids := l, n0 := n0, n1 := n1, n2 := n2, n3 := n3, over := ov } a cap) T_api_Reply rr rb s5 ++ ((sb, strO []) :: Lv)) w') [27] [0, 1, 2, 3, 4, 5, 6, 7, 8, 9, 10, 11, 12, 13, 14, 15, 16, 17, 18, 19, 20, 21, 22, 24, 25, 26, 23, 27] (by kernel_rfl) hS.drew ?_
  have hS := hS.drew
  repeat (first | refine SemW.run tblOk ?_ | refine IntG.nw (by omega) ?_ | refine IntG.nu8 (by omega) ?_ | refine IntG.nu32 (by omega) ?_ | refine IntG.nu64 (by omega) ?_ | refine IntG.wr' rfl ?_ | refine Chk.mk (by omega) ?_ | (refine BrG.id ?_; first | with_reducible refine BrG.t ?_ | with_reducible refine BrG.f ?_ | with_reducible refine BrG.notG ?_ | with_reducible refine BrG.nn ?_ | with_reducible refine BrG.ns ?_ | refine BrG.pos (by omega) ?_ | refine BrG.neg (by omega) ?_ | with_reducible refine BrG.pos rfl ?_ | refine BrG.pos (by assumption) ?_ | refine BrG.neg (by assumption) ?_ | refine BrG.pos (by decide) ?_ | refine BrG.neg (by decide) ?_) | refine Chk.mk (ptr_ok tblOk rfl rfl) ?_ | refine NilG.mk (fun _ => by kernel_rfl) ?_ | refine Chk.mk (by decide) ?_ | refine hS.ldC rfl ?_ | refine hS.ldnC rfl ?_)
  refine hS.al ?_
  intro q w3 _ hS
  refine Chk.mk (hS.sub (List.sublist_cons_self _ _)) ?_
  repeat (first | refine SemW.run tblOk ?_ | refine IntG.nw (by omega) ?_ | refine IntG.nu8 (by omega) ?_ | refine IntG.nu32 (by omega) ?_ | refine IntG.nu64 (by omega) ?_ | refine IntG.wr' rfl ?_ | refine Chk.mk (by omega) ?_ | (refine BrG.id ?_; first | with_reducible refine BrG.t ?_ | with_reducible refine BrG.f ?_ | with_reducible refine BrG.notG ?_ | with_reducible refine BrG.nn ?_ | with_reducible refine BrG.ns ?_ | refine BrG.pos (by omega) ?_ | refine BrG.neg (by omega) ?_ | with_reducible refine BrG.pos rfl ?_ | refine BrG.pos (by assumption) ?_ | refine BrG.neg (by assumption) ?_ | refine BrG.pos (by decide) ?_ | refine BrG.neg (by decide) ?_) | refine Chk.mk (ptr_ok tblOk rfl rfl) ?_ | refine NilG.mk (fun _ => by kernel_rfl) ?_ | refine Chk.mk (by decide) ?_ | refine hS.ldC rfl ?_ | refine hS.ldnC rfl ?_)
  refine InvG.mk ⟨f_wire_reader_int, ptr rr, by kernel_rfl, ?_⟩
  refine Cl.mono (rint_spec (b := ab) (s := s5) (hS.part (L := tgH ab (replyC { zRep with code := z0, ids := l, n0 := n0, n1 := n1, n2 := n2, n3 := n3, over := ov } a cap) T_api_Reply rr rb s5)) (by omega) (offs := [7, 8, 9, 14, 15, 16, 17]) (hS.arr (b := q) (show q ∉ [ab, rr, rb] from nodup_chunk (L := tgH ab (replyC { zRep with code := z0, ids := l, n0 := n0, n1 := n1, n2 := n2, n3 := n3, over := ov } a cap) T_api_Reply rr rb s5) hS)) (by simp) (by simp)) ?_
  rintro _ w4 hS'
  have hS := (hS.call (L := tgH ab (replyC { zRep with code := z0, ids := l, n0 := n0, n1 := n1, n2 := n2, n3 := n3, over := ov } a cap) T_api_Reply rr rb s5) hS').sub (List.sublist_cons_self _ _)
  obtain ⟨p0, p1, p2, p3, p4, p5, p6, hy7⟩ := wInts_cut7 s5
  have htl7 := wInts_tlen 7 s5
  have hS : St w T0 (tgH ab (setL (replyC { zRep with code := z0, ids := l, n0 := n0, n1 := n1, n2 := n2, n3 := n3, over := ov } a cap) [7, 8, 9, 14, 15, 16, 17] ((wInts 7 s5).1.map intV)) T_api_Reply rr rb (wInts 7 s5).2 ++ ((sb, strO []) :: Lv)) _ := hS
  rw [hy7] at hS ⊢
  simp only at hS ⊢
  generalize (wInts 7 s5).2 = s6 at hS htl7 ⊢
  have hS : St w T0 (tgH ab (replyC { zRep with code := z0, ids := l, n0 := n0, n1 := n1, n2 := n2, n3 := n3, over := ov, pax := { zPax with id := p0, flight := p1, cab := p2, cls := p3, status := p4, tick := p5, pass := p6 } } a cap) T_api_Reply rr rb s6 ++ ((sb, strO []) :: Lv)) _ := hS
  repeat (first | refine SemW.run tblOk ?_ | refine IntG.nw (by omega) ?_ | refine IntG.nu8 (by omega) ?_ | refine IntG.nu32 (by omega) ?_ | refine IntG.nu64 (by omega) ?_ | refine IntG.wr' rfl ?_ | refine Chk.mk (by omega) ?_ | (refine BrG.id ?_; first | with_reducible refine BrG.t ?_ | with_reducible refine BrG.f ?_ | with_reducible refine BrG.notG ?_ | with_reducible refine BrG.nn ?_ | with_reducible refine BrG.ns ?_ | refine BrG.pos (by omega) ?_ | refine BrG.neg (by omega) ?_ | with_reducible refine BrG.pos rfl ?_ | refine BrG.pos (by assumption) ?_ | refine BrG.neg (by assumption) ?_ | refine BrG.pos (by decide) ?_ | refine BrG.neg (by decide) ?_) | refine Chk.mk (ptr_ok tblOk rfl rfl) ?_ | refine NilG.mk (fun _ => by kernel_rfl) ?_ | refine Chk.mk (by decide) ?_)
  refine SemW.draw tblOk mixed (fun w' => St w T0 (tgH ab (replyC { zRep with code := z0, ids := l, n0 := n0, n1 := n1, n2 := n2, n3 := n3, over := ov, pax := { zPax with id := p0, flight := p1, cab := p2, cls := p3, status := p4, tick := p5, pass := p6 } } a cap) T_api_Reply rr rb s6 ++ ((sb, strO []) :: Lv)) w') [19] [0, 1, 2, 3, 4, 5, 6, 7, 8, 9, 10, 11, 12, 13, 14, 16, 17, 18, 15, 19] (by kernel_rfl) hS.drew ?_
  have hS := hS.drew
  repeat (first | refine SemW.run tblOk ?_ | refine IntG.nw (by omega) ?_ | refine IntG.nu8 (by omega) ?_ | refine IntG.nu32 (by omega) ?_ | refine IntG.nu64 (by omega) ?_ | refine IntG.wr' rfl ?_ | refine Chk.mk (by omega) ?_ | (refine BrG.id ?_; first | with_reducible refine BrG.t ?_ | with_reducible refine BrG.f ?_ | with_reducible refine BrG.notG ?_ | with_reducible refine BrG.nn ?_ | with_reducible refine BrG.ns ?_ | refine BrG.pos (by omega) ?_ | refine BrG.neg (by omega) ?_ | with_reducible refine BrG.pos rfl ?_ | refine BrG.pos (by assumption) ?_ | refine BrG.neg (by assumption) ?_ | refine BrG.pos (by decide) ?_ | refine BrG.neg (by decide) ?_) | refine Chk.mk (ptr_ok tblOk rfl rfl) ?_ | refine NilG.mk (fun _ => by kernel_rfl) ?_ | refine Chk.mk (by decide) ?_ | refine hS.ldC rfl ?_ | refine hS.ldnC rfl ?_)
  refine hS.al ?_
  intro q w3 _ hS
  refine Chk.mk (hS.sub (List.sublist_cons_self _ _)) ?_
  repeat (first | refine SemW.run tblOk ?_ | refine IntG.nw (by omega) ?_ | refine IntG.nu8 (by omega) ?_ | refine IntG.nu32 (by omega) ?_ | refine IntG.nu64 (by omega) ?_ | refine IntG.wr' rfl ?_ | refine Chk.mk (by omega) ?_ | (refine BrG.id ?_; first | with_reducible refine BrG.t ?_ | with_reducible refine BrG.f ?_ | with_reducible refine BrG.notG ?_ | with_reducible refine BrG.nn ?_ | with_reducible refine BrG.ns ?_ | refine BrG.pos (by omega) ?_ | refine BrG.neg (by omega) ?_ | with_reducible refine BrG.pos rfl ?_ | refine BrG.pos (by assumption) ?_ | refine BrG.neg (by assumption) ?_ | refine BrG.pos (by decide) ?_ | refine BrG.neg (by decide) ?_) | refine Chk.mk (ptr_ok tblOk rfl rfl) ?_ | refine NilG.mk (fun _ => by kernel_rfl) ?_ | refine Chk.mk (by decide) ?_ | refine hS.ldC rfl ?_ | refine hS.ldnC rfl ?_)
  refine InvG.mk ⟨f_wire_reader_marks, ptr rr, by kernel_rfl, ?_⟩
  refine Cl.mono (rmarks_spec (b := ab) (s := s6) (hS.part (L := tgH ab (replyC { zRep with code := z0, ids := l, n0 := n0, n1 := n1, n2 := n2, n3 := n3, over := ov, pax := { zPax with id := p0, flight := p1, cab := p2, cls := p3, status := p4, tick := p5, pass := p6 } } a cap) T_api_Reply rr rb s6)) (by omega) (offs := [10, 11, 12, 13]) (hS.arr (b := q) (show q ∉ [ab, rr, rb] from nodup_chunk (L := tgH ab (replyC { zRep with code := z0, ids := l, n0 := n0, n1 := n1, n2 := n2, n3 := n3, over := ov, pax := { zPax with id := p0, flight := p1, cab := p2, cls := p3, status := p4, tick := p5, pass := p6 } } a cap) T_api_Reply rr rb s6) hS)) (by simp) (by simp)) ?_
  rintro _ w4 hS'
  have hS := (hS.call (L := tgH ab (replyC { zRep with code := z0, ids := l, n0 := n0, n1 := n1, n2 := n2, n3 := n3, over := ov, pax := { zPax with id := p0, flight := p1, cab := p2, cls := p3, status := p4, tick := p5, pass := p6 } } a cap) T_api_Reply rr rb s6) hS').sub (List.sublist_cons_self _ _)
  obtain ⟨f0, f1, f2, f3, hm4⟩ := wMarks_cut4 s6
  have htl8 := wMarks_tlen 4 s6
  have hS : St w T0 (tgH ab (setL (replyC { zRep with code := z0, ids := l, n0 := n0, n1 := n1, n2 := n2, n3 := n3, over := ov, pax := { zPax with id := p0, flight := p1, cab := p2, cls := p3, status := p4, tick := p5, pass := p6 } } a cap) [10, 11, 12, 13] ((wMarks 4 s6).1.map Value.bool)) T_api_Reply rr rb (wMarks 4 s6).2 ++ ((sb, strO []) :: Lv)) _ := hS
  rw [hm4] at hS ⊢
  simp only at hS ⊢
  generalize (wMarks 4 s6).2 = s7 at hS htl8 ⊢
  have hS : St w T0 ((ab, repO { zRep with code := z0, ids := l, n0 := n0, n1 := n1, n2 := n2, n3 := n3, over := ov, pax := { zPax with id := p0, flight := p1, cab := p2, fit := f0, infant := f1, vol := f2, stb := f3, cls := p3, status := p4, tick := p5, pass := p6 } } a cap) :: ([(rr, wrdC rb s7.bad), (rb, rdC s7.t)] ++ ([(sb, strO [])] ++ Lv))) _ := hS
  repeat (first | refine SemW.run tblOk ?_ | refine IntG.nw (by omega) ?_ | refine IntG.nu8 (by omega) ?_ | refine IntG.nu32 (by omega) ?_ | refine IntG.nu64 (by omega) ?_ | refine IntG.wr' rfl ?_ | refine Chk.mk (by omega) ?_ | (refine BrG.id ?_; first | with_reducible refine BrG.t ?_ | with_reducible refine BrG.f ?_ | with_reducible refine BrG.notG ?_ | with_reducible refine BrG.nn ?_ | with_reducible refine BrG.ns ?_ | refine BrG.pos (by omega) ?_ | refine BrG.neg (by omega) ?_ | with_reducible refine BrG.pos rfl ?_ | refine BrG.pos (by assumption) ?_ | refine BrG.neg (by assumption) ?_ | refine BrG.pos (by decide) ?_ | refine BrG.neg (by decide) ?_) | refine Chk.mk (ptr_ok tblOk rfl rfl) ?_ | refine NilG.mk (fun _ => by kernel_rfl) ?_ | refine Chk.mk (by decide) ?_)
  have hS : St w T0 ((ab, repO { zRep with code := z0, ids := l, n0 := n0, n1 := n1, n2 := n2, n3 := n3, over := ov, pax := { zPax with id := p0, flight := p1, cab := p2, fit := f0, infant := f1, vol := f2, stb := f3, cls := p3, status := p4, tick := p5, pass := p6 } } a cap) :: (tgH sb [Str []] T_string rr rb s7 ++ Lv)) _ := hS.perm (List.Perm.cons _ (by rw [← List.append_assoc]; exact List.Perm.append_right Lv List.perm_append_comm))
  refine InvG.mk ⟨f_wire_reader_text, ptr rr, by kernel_rfl, ?_⟩
  refine Cl.mono (rtext_spec (b := sb) (s := s7) (o := 0) (hS.part (L := tgH sb [Str []] T_string rr rb s7)) (by omega) (by simp)) ?_
  rintro _ w4 hS'
  have hS := hS.call (L := tgH sb [Str []] T_string rr rb s7) hS'
  have htl9 := wText_tlen s7
  generalize wText s7 = y9 at hS htl9 ⊢
  obtain ⟨seat, s8⟩ := y9
  simp only at hS htl9 ⊢
  have hS : St w T0 ((ab, repO { zRep with code := z0, ids := l, n0 := n0, n1 := n1, n2 := n2, n3 := n3, over := ov, pax := { zPax with id := p0, flight := p1, cab := p2, fit := f0, infant := f1, vol := f2, stb := f3, cls := p3, status := p4, tick := p5, pass := p6 } } a cap) :: ([(sb, strO seat)] ++ ([(rr, wrdC rb s8.bad), (rb, rdC s8.t)] ++ Lv))) _ := hS
  have hS : St w T0 (tgH ab (replyC { zRep with code := z0, ids := l, n0 := n0, n1 := n1, n2 := n2, n3 := n3, over := ov, pax := { zPax with id := p0, flight := p1, cab := p2, fit := f0, infant := f1, vol := f2, stb := f3, cls := p3, status := p4, tick := p5, pass := p6 } } a cap) T_api_Reply rr rb s8 ++ ((sb, strO seat) :: Lv)) _ := hS.perm (List.Perm.cons _ (by rw [← List.append_assoc]; exact List.Perm.append_right Lv (List.perm_append_comm (l₁ := [(sb, strO seat)]))))
  repeat (first | refine SemW.run tblOk ?_ | refine IntG.nw (by omega) ?_ | refine IntG.nu8 (by omega) ?_ | refine IntG.nu32 (by omega) ?_ | refine IntG.nu64 (by omega) ?_ | refine IntG.wr' rfl ?_ | refine Chk.mk (by omega) ?_ | (refine BrG.id ?_; first | with_reducible refine BrG.t ?_ | with_reducible refine BrG.f ?_ | with_reducible refine BrG.notG ?_ | with_reducible refine BrG.nn ?_ | with_reducible refine BrG.ns ?_ | refine BrG.pos (by omega) ?_ | refine BrG.neg (by omega) ?_ | with_reducible refine BrG.pos rfl ?_ | refine BrG.pos (by assumption) ?_ | refine BrG.neg (by assumption) ?_ | refine BrG.pos (by decide) ?_ | refine BrG.neg (by decide) ?_) | refine Chk.mk (ptr_ok tblOk rfl rfl) ?_ | refine NilG.mk (fun _ => by kernel_rfl) ?_ | refine Chk.mk (by decide) ?_)
  refine SemW.draw tblOk mixed (fun w' => St w T0 (tgH ab (replyC { zRep with code := z0, ids := l, n0 := n0, n1 := n1, n2 := n2, n3 := n3, over := ov, pax := { zPax with id := p0, flight := p1, cab := p2, fit := f0, infant := f1, vol := f2, stb := f3, cls := p3, status := p4, tick := p5, pass := p6 } } a cap) T_api_Reply rr rb s8 ++ ((sb, strO seat) :: Lv)) w') [7] [0, 1, 2, 3, 4, 5, 6, 7] (by kernel_rfl) hS.drew ?_
  have hS := hS.drew
  repeat (first | refine SemW.run tblOk ?_ | refine IntG.nw (by omega) ?_ | refine IntG.nu8 (by omega) ?_ | refine IntG.nu32 (by omega) ?_ | refine IntG.nu64 (by omega) ?_ | refine IntG.wr' rfl ?_ | refine Chk.mk (by omega) ?_ | (refine BrG.id ?_; first | with_reducible refine BrG.t ?_ | with_reducible refine BrG.f ?_ | with_reducible refine BrG.notG ?_ | with_reducible refine BrG.nn ?_ | with_reducible refine BrG.ns ?_ | refine BrG.pos (by omega) ?_ | refine BrG.neg (by omega) ?_ | with_reducible refine BrG.pos rfl ?_ | refine BrG.pos (by assumption) ?_ | refine BrG.neg (by assumption) ?_ | refine BrG.pos (by decide) ?_ | refine BrG.neg (by decide) ?_) | refine Chk.mk (ptr_ok tblOk rfl rfl) ?_ | refine NilG.mk (fun _ => by kernel_rfl) ?_ | refine Chk.mk (by decide) ?_ | refine hS.ldC rfl ?_ | refine hS.ldnC rfl ?_)
  refine InvG.mk ⟨f_wire_reader_text, ptr rr, by kernel_rfl, ?_⟩
  refine Cl.mono (rtext_spec (b := ab) (s := s8) (o := 20) (hS.part (L := tgH ab (replyC { zRep with code := z0, ids := l, n0 := n0, n1 := n1, n2 := n2, n3 := n3, over := ov, pax := { zPax with id := p0, flight := p1, cab := p2, fit := f0, infant := f1, vol := f2, stb := f3, cls := p3, status := p4, tick := p5, pass := p6 } } a cap) T_api_Reply rr rb s8)) (by omega) (by simp)) ?_
  rintro _ w4 hS'
  have hS := hS.call (L := tgH ab (replyC { zRep with code := z0, ids := l, n0 := n0, n1 := n1, n2 := n2, n3 := n3, over := ov, pax := { zPax with id := p0, flight := p1, cab := p2, fit := f0, infant := f1, vol := f2, stb := f3, cls := p3, status := p4, tick := p5, pass := p6 } } a cap) T_api_Reply rr rb s8) hS'
  repeat (first | refine SemW.run tblOk ?_ | refine IntG.nw (by omega) ?_ | refine IntG.nu8 (by omega) ?_ | refine IntG.nu32 (by omega) ?_ | refine IntG.nu64 (by omega) ?_ | refine IntG.wr' rfl ?_ | refine Chk.mk (by omega) ?_ | (refine BrG.id ?_; first | with_reducible refine BrG.t ?_ | with_reducible refine BrG.f ?_ | with_reducible refine BrG.notG ?_ | with_reducible refine BrG.nn ?_ | with_reducible refine BrG.ns ?_ | refine BrG.pos (by omega) ?_ | refine BrG.neg (by omega) ?_ | with_reducible refine BrG.pos rfl ?_ | refine BrG.pos (by assumption) ?_ | refine BrG.neg (by assumption) ?_ | refine BrG.pos (by decide) ?_ | refine BrG.neg (by decide) ?_) | refine Chk.mk (ptr_ok tblOk rfl rfl) ?_ | refine NilG.mk (fun _ => by kernel_rfl) ?_ | refine Chk.mk (by decide) ?_)
  exact ⟨a, cap, Lv, hv, hS⟩
end Go.Proofs.YthpmmfapolcaiaaDoor

/- Package wire: ReadReply. -/
namespace Go.Proofs.YthpmmfapolcaiaaDoor
open Go Go.Eng Go.Proofs
def RepPost (o : Option ReplyM) (v : Value) (w w' : World) : Prop := match o with
  | none => v = .tuple ⟨[.agg ⟨replyC zRep none 0⟩, .int .i64 34]⟩ ∧ St w [] [] w'
  | some r => ∃ a cap L, v = .tuple ⟨[.agg ⟨replyC r a cap⟩, .int .i64 0]⟩ ∧ Vec T_int 1 a r.ids.length cap (r.ids.map intV) L ∧ St w [] L w'
def readR (t : Bytes) : Option ReplyM := (openS t).bind replyS
theorem withSeat_zero {r : ReplyM} (h1 : r.pax.num = 0) (h2 : r.pax.c = 0) : withSeat r 0 0 = r := by
  unfold withSeat
  rw [← h1, ← h2]
theorem wReply_seat (s : RB) : (wReply s).1.2.length ≤ s.t.length := by
  unfold wReply tk
  simp only
  exact Nat.le_trans (wText_size _) (Nat.le_trans (wMarks_tlen _ _) (Nat.le_trans (wInts_tlen _ _) (Nat.le_trans (wMarks_tlen _ _) (Nat.le_trans (wInts_tlen _ _) (Nat.le_trans (wInts_tlen _ _) (Nat.le_trans (wNum_tlen _ _) (wInts_tlen _ _)))))))
theorem wReply_zero (s : RB) : (wReply s).1.1.pax.num = 0 ∧ (wReply s).1.1.pax.c = 0 := by
  unfold wReply tk
  simp only
  exact ⟨trivial, trivial⟩
set_option maxHeartbeats 8000000 in
set_option maxRecDepth 4000 in
theorem ReadReply_spec {w : World} {t : Bytes} (ht : t.length ≤ 140737488355328) (hE : ErrVars w) : Cl Tryd.prog f_wire_ReadReply [Str t] w fun v w' => RepPost (readR t) v w w' := by
  have hS := St.start w
  unfold readR
  refine en_wire_ReadReply rfl ?_
  repeat (first | refine SemW.run tblOk ?_ | refine IntG.nw (by omega) ?_ | refine IntG.nu8 (by omega) ?_ | refine IntG.nu32 (by omega) ?_ | refine IntG.nu64 (by omega) ?_ | refine IntG.wr' rfl ?_ | refine Chk.mk (by omega) ?_ | (refine BrG.id ?_; first | with_reducible refine BrG.t ?_ | with_reducible refine BrG.f ?_ | with_reducible refine BrG.notG ?_ | with_reducible refine BrG.nn ?_ | with_reducible refine BrG.ns ?_ | refine BrG.pos (by omega) ?_ | refine BrG.neg (by omega) ?_ | with_reducible refine BrG.pos rfl ?_ | refine BrG.pos (by assumption) ?_ | refine BrG.neg (by assumption) ?_ | refine BrG.pos (by decide) ?_ | refine BrG.neg (by decide) ?_) | refine Chk.mk (ptr_ok tblOk rfl rfl) ?_ | refine NilG.mk (fun _ => by kernel_rfl) ?_ | refine Chk.mk (by decide) ?_)
  refine hS.al ?_
  intro b2 w1 _ hS
  repeat (first | refine SemW.run tblOk ?_ | refine IntG.nw (by omega) ?_ | refine IntG.nu8 (by omega) ?_ | refine IntG.nu32 (by omega) ?_ | refine IntG.nu64 (by omega) ?_ | refine IntG.wr' rfl ?_ | refine Chk.mk (by omega) ?_ | (refine BrG.id ?_; first | with_reducible refine BrG.t ?_ | with_reducible refine BrG.f ?_ | with_reducible refine BrG.notG ?_ | with_reducible refine BrG.nn ?_ | with_reducible refine BrG.ns ?_ | refine BrG.pos (by omega) ?_ | refine BrG.neg (by omega) ?_ | with_reducible refine BrG.pos rfl ?_ | refine BrG.pos (by assumption) ?_ | refine BrG.neg (by assumption) ?_ | refine BrG.pos (by decide) ?_ | refine BrG.neg (by decide) ?_) | refine Chk.mk (ptr_ok tblOk rfl rfl) ?_ | refine NilG.mk (fun _ => by kernel_rfl) ?_ | refine Chk.mk (by decide) ?_ | refine hS.ld rfl ?_ | refine hS.ldn rfl ?_ | (refine hS.st rfl rfl ?_; intro _ hS))
  refine Cl.mono (open_spec ht) ?_
  intro v w2 hO
  have hle : ∀ p, openS t = some p → p.length ≤ 65536 := fun p h => (openS_iff.1 h).2
  cases ho : openS t with
  | none =>
    rw [ho] at hO
    obtain ⟨rfl, hS'⟩ := hO
    have hS := hS.call0 hS'
    repeat (first | refine SemW.run tblOk ?_ | refine IntG.nw (by omega) ?_ | refine IntG.nu8 (by omega) ?_ | refine IntG.nu32 (by omega) ?_ | refine IntG.nu64 (by omega) ?_ | refine IntG.wr' rfl ?_ | refine Chk.mk (by omega) ?_ | (refine BrG.id ?_; first | with_reducible refine BrG.t ?_ | with_reducible refine BrG.f ?_ | with_reducible refine BrG.notG ?_ | with_reducible refine BrG.nn ?_ | with_reducible refine BrG.ns ?_ | refine BrG.pos (by omega) ?_ | refine BrG.neg (by omega) ?_ | with_reducible refine BrG.pos rfl ?_ | refine BrG.pos (by assumption) ?_ | refine BrG.neg (by assumption) ?_ | refine BrG.pos (by decide) ?_ | refine BrG.neg (by decide) ?_) | refine Chk.mk (ptr_ok tblOk rfl rfl) ?_ | refine NilG.mk (fun _ => by kernel_rfl) ?_ | refine Chk.mk (by decide) ?_ | refine hS.ld rfl ?_ | refine hS.ldn rfl ?_ | (refine hS.st rfl rfl ?_; intro _ hS))
    exact ⟨rfl, hS.nil⟩
  | some p =>
    rw [ho] at hO
    obtain ⟨rr, rb, rfl, hS'⟩ := hO
    have hpl := hle p ho
    have hS := hS.callNew hS'
    rw [Option.bind_some]
    unfold replyS tk
    simp only
    repeat (first | refine SemW.run tblOk ?_ | refine IntG.nw (by omega) ?_ | refine IntG.nu8 (by omega) ?_ | refine IntG.nu32 (by omega) ?_ | refine IntG.nu64 (by omega) ?_ | refine IntG.wr' rfl ?_ | refine Chk.mk (by omega) ?_ | (refine BrG.id ?_; first | with_reducible refine BrG.t ?_ | with_reducible refine BrG.f ?_ | with_reducible refine BrG.notG ?_ | with_reducible refine BrG.nn ?_ | with_reducible refine BrG.ns ?_ | refine BrG.pos (by omega) ?_ | refine BrG.neg (by omega) ?_ | with_reducible refine BrG.pos rfl ?_ | refine BrG.pos (by assumption) ?_ | refine BrG.neg (by assumption) ?_ | refine BrG.pos (by decide) ?_ | refine BrG.neg (by decide) ?_) | refine Chk.mk (ptr_ok tblOk rfl rfl) ?_ | refine NilG.mk (fun _ => by kernel_rfl) ?_ | refine Chk.mk (by decide) ?_ | refine hS.ld rfl ?_ | refine hS.ldn rfl ?_ | (refine hS.st rfl rfl ?_; intro _ hS))
    refine hS.al ?_
    intro ab w3 _ hS
    repeat (first | refine SemW.run tblOk ?_ | refine IntG.nw (by omega) ?_ | refine IntG.nu8 (by omega) ?_ | refine IntG.nu32 (by omega) ?_ | refine IntG.nu64 (by omega) ?_ | refine IntG.wr' rfl ?_ | refine Chk.mk (by omega) ?_ | (refine BrG.id ?_; first | with_reducible refine BrG.t ?_ | with_reducible refine BrG.f ?_ | with_reducible refine BrG.notG ?_ | with_reducible refine BrG.nn ?_ | with_reducible refine BrG.ns ?_ | refine BrG.pos (by omega) ?_ | refine BrG.neg (by omega) ?_ | with_reducible refine BrG.pos rfl ?_ | refine BrG.pos (by assumption) ?_ | refine BrG.neg (by assumption) ?_ | refine BrG.pos (by decide) ?_ | refine BrG.neg (by decide) ?_) | refine Chk.mk (ptr_ok tblOk rfl rfl) ?_ | refine NilG.mk (fun _ => by kernel_rfl) ?_ | refine Chk.mk (by decide) ?_ | refine hS.ld rfl ?_ | refine hS.ldn rfl ?_ | (refine hS.st rfl rfl ?_; intro _ hS))
    refine hS.al ?_
    intro sb w4 _ hS
    repeat (first | refine SemW.run tblOk ?_ | refine IntG.nw (by omega) ?_ | refine IntG.nu8 (by omega) ?_ | refine IntG.nu32 (by omega) ?_ | refine IntG.nu64 (by omega) ?_ | refine IntG.wr' rfl ?_ | refine Chk.mk (by omega) ?_ | (refine BrG.id ?_; first | with_reducible refine BrG.t ?_ | with_reducible refine BrG.f ?_ | with_reducible refine BrG.notG ?_ | with_reducible refine BrG.nn ?_ | with_reducible refine BrG.ns ?_ | refine BrG.pos (by omega) ?_ | refine BrG.neg (by omega) ?_ | with_reducible refine BrG.pos rfl ?_ | refine BrG.pos (by assumption) ?_ | refine BrG.neg (by assumption) ?_ | refine BrG.pos (by decide) ?_ | refine BrG.neg (by decide) ?_) | refine Chk.mk (ptr_ok tblOk rfl rfl) ?_ | refine NilG.mk (fun _ => by kernel_rfl) ?_ | refine Chk.mk (by decide) ?_ | refine hS.ld rfl ?_ | refine hS.ldn rfl ?_ | (refine hS.st rfl rfl ?_; intro _ hS))
    have hS : St w [] ([(sb, strO [])] ++ ([(ab, repO zRep none 0), (rr, wrdC rb false), (rb, rdC p)] ++ [(b2, repO zRep none 0)])) _ := hS
    have hS : St w [] (repH ab rr rb sb zRep none 0 ⟨p, false⟩ [] [] ++ [(b2, repO zRep none 0)]) _ := hS.perm (by rw [← List.append_assoc]; exact List.Perm.append_right _ List.perm_append_comm)
    refine Cl.mono (reply_rd (s := ⟨p, false⟩) (hS.part (L := repH ab rr rb sb zRep none 0 ⟨p, false⟩ [] [])) (by simp only; omega)) ?_
    rintro _ w5 ⟨a, cap, Lv, hv, hS'⟩
    have hx := wReply_seat ⟨p, false⟩
    obtain ⟨hz1, hz2⟩ := wReply_zero ⟨p, false⟩
    generalize wReply ⟨p, false⟩ = y at hS' hx hz1 hz2 hv ⊢
    obtain ⟨⟨rm, x⟩, t3, bad⟩ := y
    simp only at hS' hx hz1 hz2 hv ⊢
    have hS := hS.call (L := repH ab rr rb sb zRep none 0 ⟨p, false⟩ [] []) hS'
    have hS : St w [] ((ab, repO rm a cap) :: (rr, .cells ⟨[ptr rb, .bool bad]⟩ T_wire_reader (0, 0)) :: (rb, .cells ⟨[Str t3]⟩ T_pack_Reader (0, 0)) :: (sb, .cells ⟨[Str x]⟩ T_string (0, 0)) :: (Lv ++ [(b2, repO zRep none 0)])) _ := hS
    by_cases hx0 : x = []
    · have hss : seatS x = some (0, 0) := if_pos hx0
      rw [hss]
      simp only
      rw [withSeat_zero hz1 hz2]
      cases bad with
      | true =>
        rw [if_pos (.inl rfl)]
        repeat (first | refine SemW.run tblOk ?_ | refine IntG.nw (by omega) ?_ | refine IntG.nu8 (by omega) ?_ | refine IntG.nu32 (by omega) ?_ | refine IntG.nu64 (by omega) ?_ | refine IntG.wr' rfl ?_ | refine Chk.mk (by omega) ?_ | (refine BrG.id ?_; first | with_reducible refine BrG.t ?_ | with_reducible refine BrG.f ?_ | with_reducible refine BrG.notG ?_ | with_reducible refine BrG.nn ?_ | with_reducible refine BrG.ns ?_ | refine BrG.pos (by omega) ?_ | refine BrG.neg (by omega) ?_ | with_reducible refine BrG.pos rfl ?_ | refine BrG.pos (by assumption) ?_ | refine BrG.neg (by assumption) ?_ | refine BrG.pos (by decide) ?_ | refine BrG.neg (by decide) ?_) | refine Chk.mk (ptr_ok tblOk rfl rfl) ?_ | refine NilG.mk (fun _ => by kernel_rfl) ?_ | refine Chk.mk (by decide) ?_ | refine hS.ld rfl ?_ | refine hS.ldn rfl ?_ | (refine hS.st rfl rfl ?_; intro _ hS))
        exact ⟨rfl, hS.nil⟩
      | false =>
        by_cases ht3 : t3 = []
        · rw [if_neg (by rintro (h | h); (· cases h); exact h ht3)]
          repeat (first | refine SemW.run tblOk ?_ | refine IntG.nw (by omega) ?_ | refine IntG.nu8 (by omega) ?_ | refine IntG.nu32 (by omega) ?_ | refine IntG.nu64 (by omega) ?_ | refine IntG.wr' rfl ?_ | refine Chk.mk (by omega) ?_ | (refine BrG.id ?_; first | with_reducible refine BrG.t ?_ | with_reducible refine BrG.f ?_ | with_reducible refine BrG.notG ?_ | with_reducible refine BrG.nn ?_ | with_reducible refine BrG.ns ?_ | refine BrG.pos (by omega) ?_ | refine BrG.neg (by omega) ?_ | with_reducible refine BrG.pos rfl ?_ | refine BrG.pos (by assumption) ?_ | refine BrG.neg (by assumption) ?_ | refine BrG.pos (by decide) ?_ | refine BrG.neg (by decide) ?_) | refine Chk.mk (ptr_ok tblOk rfl rfl) ?_ | refine NilG.mk (fun _ => by kernel_rfl) ?_ | refine Chk.mk (by decide) ?_ | refine hS.ld rfl ?_ | refine hS.ldn rfl ?_ | (refine hS.st rfl rfl ?_; intro _ hS))
          refine Cl.mono (RDone_spec (t := t3) (hS.part (L := [(rb, rdC t3)]))) ?_
          rintro _ w9 ⟨rfl, hS'⟩
          have hS := hS.call0 hS'
          rw [decide_eq_true ht3]
          repeat (first | refine SemW.run tblOk ?_ | refine IntG.nw (by omega) ?_ | refine IntG.nu8 (by omega) ?_ | refine IntG.nu32 (by omega) ?_ | refine IntG.nu64 (by omega) ?_ | refine IntG.wr' rfl ?_ | refine Chk.mk (by omega) ?_ | (refine BrG.id ?_; first | with_reducible refine BrG.t ?_ | with_reducible refine BrG.f ?_ | with_reducible refine BrG.notG ?_ | with_reducible refine BrG.nn ?_ | with_reducible refine BrG.ns ?_ | refine BrG.pos (by omega) ?_ | refine BrG.neg (by omega) ?_ | with_reducible refine BrG.pos rfl ?_ | refine BrG.pos (by assumption) ?_ | refine BrG.neg (by assumption) ?_ | refine BrG.pos (by decide) ?_ | refine BrG.neg (by decide) ?_) | refine Chk.mk (ptr_ok tblOk rfl rfl) ?_ | refine NilG.mk (fun _ => by kernel_rfl) ?_ | refine Chk.mk (by decide) ?_ | refine hS.ld rfl ?_ | refine hS.ldn rfl ?_ | (refine hS.st rfl rfl ?_; intro _ hS))
          exact ⟨a, cap, Lv, rfl, hv, hS.sub ((List.sublist_append_left Lv _).trans ((List.sublist_cons_self _ _).trans ((List.sublist_cons_self _ _).trans ((List.sublist_cons_self _ _).trans (List.sublist_cons_self _ _)))))⟩
        · rw [if_pos (.inr ht3)]
          repeat (first | refine SemW.run tblOk ?_ | refine IntG.nw (by omega) ?_ | refine IntG.nu8 (by omega) ?_ | refine IntG.nu32 (by omega) ?_ | refine IntG.nu64 (by omega) ?_ | refine IntG.wr' rfl ?_ | refine Chk.mk (by omega) ?_ | (refine BrG.id ?_; first | with_reducible refine BrG.t ?_ | with_reducible refine BrG.f ?_ | with_reducible refine BrG.notG ?_ | with_reducible refine BrG.nn ?_ | with_reducible refine BrG.ns ?_ | refine BrG.pos (by omega) ?_ | refine BrG.neg (by omega) ?_ | with_reducible refine BrG.pos rfl ?_ | refine BrG.pos (by assumption) ?_ | refine BrG.neg (by assumption) ?_ | refine BrG.pos (by decide) ?_ | refine BrG.neg (by decide) ?_) | refine Chk.mk (ptr_ok tblOk rfl rfl) ?_ | refine NilG.mk (fun _ => by kernel_rfl) ?_ | refine Chk.mk (by decide) ?_ | refine hS.ld rfl ?_ | refine hS.ldn rfl ?_ | (refine hS.st rfl rfl ?_; intro _ hS))
          refine Cl.mono (RDone_spec (t := t3) (hS.part (L := [(rb, rdC t3)]))) ?_
          rintro _ w9 ⟨rfl, hS'⟩
          have hS := hS.call0 hS'
          rw [decide_eq_false ht3]
          repeat (first | refine SemW.run tblOk ?_ | refine IntG.nw (by omega) ?_ | refine IntG.nu8 (by omega) ?_ | refine IntG.nu32 (by omega) ?_ | refine IntG.nu64 (by omega) ?_ | refine IntG.wr' rfl ?_ | refine Chk.mk (by omega) ?_ | (refine BrG.id ?_; first | with_reducible refine BrG.t ?_ | with_reducible refine BrG.f ?_ | with_reducible refine BrG.notG ?_ | with_reducible refine BrG.nn ?_ | with_reducible refine BrG.ns ?_ | refine BrG.pos (by omega) ?_ | refine BrG.neg (by omega) ?_ | with_reducible refine BrG.pos rfl ?_ | refine BrG.pos (by assumption) ?_ | refine BrG.neg (by assumption) ?_ | refine BrG.pos (by decide) ?_ | refine BrG.neg (by decide) ?_) | refine Chk.mk (ptr_ok tblOk rfl rfl) ?_ | refine NilG.mk (fun _ => by kernel_rfl) ?_ | refine Chk.mk (by decide) ?_ | refine hS.ld rfl ?_ | refine hS.ldn rfl ?_ | (refine hS.st rfl rfl ?_; intro _ hS))
          exact ⟨rfl, hS.nil⟩
    · have hss : seatS x = parseB x := if_neg hx0
      rw [hss]
      repeat (first | refine SemW.run tblOk ?_ | refine IntG.nw (by omega) ?_ | refine IntG.nu8 (by omega) ?_ | refine IntG.nu32 (by omega) ?_ | refine IntG.nu64 (by omega) ?_ | refine IntG.wr' rfl ?_ | refine Chk.mk (by omega) ?_ | (refine BrG.id ?_; first | with_reducible refine BrG.t ?_ | with_reducible refine BrG.f ?_ | with_reducible refine BrG.notG ?_ | with_reducible refine BrG.nn ?_ | with_reducible refine BrG.ns ?_ | refine BrG.pos (by omega) ?_ | refine BrG.neg (by omega) ?_ | with_reducible refine BrG.pos rfl ?_ | refine BrG.pos (by assumption) ?_ | refine BrG.neg (by assumption) ?_ | refine BrG.pos (by decide) ?_ | refine BrG.neg (by decide) ?_) | refine Chk.mk (ptr_ok tblOk rfl rfl) ?_ | refine NilG.mk (fun _ => by kernel_rfl) ?_ | refine Chk.mk (by decide) ?_ | refine hS.ld rfl ?_ | refine hS.ldn rfl ?_ | (refine hS.st rfl rfl ?_; intro _ hS))
      refine Cl.mono (Parse_spec (s := x) (by omega) (hE.keep hS (by simp) (by simp))) ?_
      rintro _ w6 ⟨rfl, hS'⟩
      have hS := hS.call0 hS'
      unfold parseO seatAt
      cases hp : parseB x with
      | none =>
        repeat (first | refine SemW.run tblOk ?_ | refine IntG.nw (by omega) ?_ | refine IntG.nu8 (by omega) ?_ | refine IntG.nu32 (by omega) ?_ | refine IntG.nu64 (by omega) ?_ | refine IntG.wr' rfl ?_ | refine Chk.mk (by omega) ?_ | (refine BrG.id ?_; first | with_reducible refine BrG.t ?_ | with_reducible refine BrG.f ?_ | with_reducible refine BrG.notG ?_ | with_reducible refine BrG.nn ?_ | with_reducible refine BrG.ns ?_ | refine BrG.pos (by omega) ?_ | refine BrG.neg (by omega) ?_ | with_reducible refine BrG.pos rfl ?_ | refine BrG.pos (by assumption) ?_ | refine BrG.neg (by assumption) ?_ | refine BrG.pos (by decide) ?_ | refine BrG.neg (by decide) ?_) | refine Chk.mk (ptr_ok tblOk rfl rfl) ?_ | refine NilG.mk (fun _ => by kernel_rfl) ?_ | refine Chk.mk (by decide) ?_ | refine hS.ld rfl ?_ | refine hS.ldn rfl ?_ | (refine hS.st rfl rfl ?_; intro _ hS))
        refine hS.al ?_
        intro b8 w7 _ hS
        cases bad with
        | true =>
          repeat (first | refine SemW.run tblOk ?_ | refine IntG.nw (by omega) ?_ | refine IntG.nu8 (by omega) ?_ | refine IntG.nu32 (by omega) ?_ | refine IntG.nu64 (by omega) ?_ | refine IntG.wr' rfl ?_ | refine Chk.mk (by omega) ?_ | (refine BrG.id ?_; first | with_reducible refine BrG.t ?_ | with_reducible refine BrG.f ?_ | with_reducible refine BrG.notG ?_ | with_reducible refine BrG.nn ?_ | with_reducible refine BrG.ns ?_ | refine BrG.pos (by omega) ?_ | refine BrG.neg (by omega) ?_ | with_reducible refine BrG.pos rfl ?_ | refine BrG.pos (by assumption) ?_ | refine BrG.neg (by assumption) ?_ | refine BrG.pos (by decide) ?_ | refine BrG.neg (by decide) ?_) | refine Chk.mk (ptr_ok tblOk rfl rfl) ?_ | refine NilG.mk (fun _ => by kernel_rfl) ?_ | refine Chk.mk (by decide) ?_ | refine hS.ld rfl ?_ | refine hS.ldn rfl ?_ | (refine hS.st rfl rfl ?_; intro _ hS))
          exact ⟨rfl, hS.nil⟩
        | false =>
          repeat (first | refine SemW.run tblOk ?_ | refine IntG.nw (by omega) ?_ | refine IntG.nu8 (by omega) ?_ | refine IntG.nu32 (by omega) ?_ | refine IntG.nu64 (by omega) ?_ | refine IntG.wr' rfl ?_ | refine Chk.mk (by omega) ?_ | (refine BrG.id ?_; first | with_reducible refine BrG.t ?_ | with_reducible refine BrG.f ?_ | with_reducible refine BrG.notG ?_ | with_reducible refine BrG.nn ?_ | with_reducible refine BrG.ns ?_ | refine BrG.pos (by omega) ?_ | refine BrG.neg (by omega) ?_ | with_reducible refine BrG.pos rfl ?_ | refine BrG.pos (by assumption) ?_ | refine BrG.neg (by assumption) ?_ | refine BrG.pos (by decide) ?_ | refine BrG.neg (by decide) ?_) | refine Chk.mk (ptr_ok tblOk rfl rfl) ?_ | refine NilG.mk (fun _ => by kernel_rfl) ?_ | refine Chk.mk (by decide) ?_ | refine hS.ld rfl ?_ | refine hS.ldn rfl ?_ | (refine hS.st rfl rfl ?_; intro _ hS))
          exact ⟨rfl, hS.nil⟩
      | some z =>
        obtain ⟨n, c⟩ := z
        simp only
        repeat (first | refine SemW.run tblOk ?_ | refine IntG.nw (by omega) ?_ | refine IntG.nu8 (by omega) ?_ | refine IntG.nu32 (by omega) ?_ | refine IntG.nu64 (by omega) ?_ | refine IntG.wr' rfl ?_ | refine Chk.mk (by omega) ?_ | (refine BrG.id ?_; first | with_reducible refine BrG.t ?_ | with_reducible refine BrG.f ?_ | with_reducible refine BrG.notG ?_ | with_reducible refine BrG.nn ?_ | with_reducible refine BrG.ns ?_ | refine BrG.pos (by omega) ?_ | refine BrG.neg (by omega) ?_ | with_reducible refine BrG.pos rfl ?_ | refine BrG.pos (by assumption) ?_ | refine BrG.neg (by assumption) ?_ | refine BrG.pos (by decide) ?_ | refine BrG.neg (by decide) ?_) | refine Chk.mk (ptr_ok tblOk rfl rfl) ?_ | refine NilG.mk (fun _ => by kernel_rfl) ?_ | refine Chk.mk (by decide) ?_ | refine hS.ld rfl ?_ | refine hS.ldn rfl ?_ | (refine hS.st rfl rfl ?_; intro _ hS))
        refine hS.al ?_
        intro b8 w7 _ hS
        cases bad with
        | true =>
          rw [if_pos (.inl rfl)]
          repeat (first | refine SemW.run tblOk ?_ | refine IntG.nw (by omega) ?_ | refine IntG.nu8 (by omega) ?_ | refine IntG.nu32 (by omega) ?_ | refine IntG.nu64 (by omega) ?_ | refine IntG.wr' rfl ?_ | refine Chk.mk (by omega) ?_ | (refine BrG.id ?_; first | with_reducible refine BrG.t ?_ | with_reducible refine BrG.f ?_ | with_reducible refine BrG.notG ?_ | with_reducible refine BrG.nn ?_ | with_reducible refine BrG.ns ?_ | refine BrG.pos (by omega) ?_ | refine BrG.neg (by omega) ?_ | with_reducible refine BrG.pos rfl ?_ | refine BrG.pos (by assumption) ?_ | refine BrG.neg (by assumption) ?_ | refine BrG.pos (by decide) ?_ | refine BrG.neg (by decide) ?_) | refine Chk.mk (ptr_ok tblOk rfl rfl) ?_ | refine NilG.mk (fun _ => by kernel_rfl) ?_ | refine Chk.mk (by decide) ?_ | refine hS.ld rfl ?_ | refine hS.ldn rfl ?_ | (refine hS.st rfl rfl ?_; intro _ hS))
          exact ⟨rfl, hS.nil⟩
        | false =>
          repeat (first | refine SemW.run tblOk ?_ | refine IntG.nw (by omega) ?_ | refine IntG.nu8 (by omega) ?_ | refine IntG.nu32 (by omega) ?_ | refine IntG.nu64 (by omega) ?_ | refine IntG.wr' rfl ?_ | refine Chk.mk (by omega) ?_ | (refine BrG.id ?_; first | with_reducible refine BrG.t ?_ | with_reducible refine BrG.f ?_ | with_reducible refine BrG.notG ?_ | with_reducible refine BrG.nn ?_ | with_reducible refine BrG.ns ?_ | refine BrG.pos (by omega) ?_ | refine BrG.neg (by omega) ?_ | with_reducible refine BrG.pos rfl ?_ | refine BrG.pos (by assumption) ?_ | refine BrG.neg (by assumption) ?_ | refine BrG.pos (by decide) ?_ | refine BrG.neg (by decide) ?_) | refine Chk.mk (ptr_ok tblOk rfl rfl) ?_ | refine NilG.mk (fun _ => by kernel_rfl) ?_ | refine Chk.mk (by decide) ?_ | refine hS.ld rfl ?_ | refine hS.ldn rfl ?_ | (refine hS.st rfl rfl ?_; intro _ hS))
          by_cases ht3 : t3 = []
          · rw [if_neg (by rintro (h | h); (· cases h); exact h ht3)]
            repeat (first | refine SemW.run tblOk ?_ | refine IntG.nw (by omega) ?_ | refine IntG.nu8 (by omega) ?_ | refine IntG.nu32 (by omega) ?_ | refine IntG.nu64 (by omega) ?_ | refine IntG.wr' rfl ?_ | refine Chk.mk (by omega) ?_ | (refine BrG.id ?_; first | with_reducible refine BrG.t ?_ | with_reducible refine BrG.f ?_ | with_reducible refine BrG.notG ?_ | with_reducible refine BrG.nn ?_ | with_reducible refine BrG.ns ?_ | refine BrG.pos (by omega) ?_ | refine BrG.neg (by omega) ?_ | with_reducible refine BrG.pos rfl ?_ | refine BrG.pos (by assumption) ?_ | refine BrG.neg (by assumption) ?_ | refine BrG.pos (by decide) ?_ | refine BrG.neg (by decide) ?_) | refine Chk.mk (ptr_ok tblOk rfl rfl) ?_ | refine NilG.mk (fun _ => by kernel_rfl) ?_ | refine Chk.mk (by decide) ?_ | refine hS.ld rfl ?_ | refine hS.ldn rfl ?_ | (refine hS.st rfl rfl ?_; intro _ hS))
            refine Cl.mono (RDone_spec (t := t3) (hS.part (L := [(rb, rdC t3)]))) ?_
            rintro _ w9 ⟨rfl, hS'⟩
            have hS := hS.call0 hS'
            rw [decide_eq_true ht3]
            repeat (first | refine SemW.run tblOk ?_ | refine IntG.nw (by omega) ?_ | refine IntG.nu8 (by omega) ?_ | refine IntG.nu32 (by omega) ?_ | refine IntG.nu64 (by omega) ?_ | refine IntG.wr' rfl ?_ | refine Chk.mk (by omega) ?_ | (refine BrG.id ?_; first | with_reducible refine BrG.t ?_ | with_reducible refine BrG.f ?_ | with_reducible refine BrG.notG ?_ | with_reducible refine BrG.nn ?_ | with_reducible refine BrG.ns ?_ | refine BrG.pos (by omega) ?_ | refine BrG.neg (by omega) ?_ | with_reducible refine BrG.pos rfl ?_ | refine BrG.pos (by assumption) ?_ | refine BrG.neg (by assumption) ?_ | refine BrG.pos (by decide) ?_ | refine BrG.neg (by decide) ?_) | refine Chk.mk (ptr_ok tblOk rfl rfl) ?_ | refine NilG.mk (fun _ => by kernel_rfl) ?_ | refine Chk.mk (by decide) ?_ | refine hS.ld rfl ?_ | refine hS.ldn rfl ?_ | (refine hS.st rfl rfl ?_; intro _ hS))
            exact ⟨a, cap, Lv, rfl, hv, hS.sub ((List.sublist_append_left Lv _).trans ((List.sublist_cons_self _ _).trans ((List.sublist_cons_self _ _).trans ((List.sublist_cons_self _ _).trans ((List.sublist_cons_self _ _).trans (List.sublist_cons_self _ _))))))⟩
          · rw [if_pos (.inr ht3)]
            repeat (first | refine SemW.run tblOk ?_ | refine IntG.nw (by omega) ?_ | refine IntG.nu8 (by omega) ?_ | refine IntG.nu32 (by omega) ?_ | refine IntG.nu64 (by omega) ?_ | refine IntG.wr' rfl ?_ | refine Chk.mk (by omega) ?_ | (refine BrG.id ?_; first | with_reducible refine BrG.t ?_ | with_reducible refine BrG.f ?_ | with_reducible refine BrG.notG ?_ | with_reducible refine BrG.nn ?_ | with_reducible refine BrG.ns ?_ | refine BrG.pos (by omega) ?_ | refine BrG.neg (by omega) ?_ | with_reducible refine BrG.pos rfl ?_ | refine BrG.pos (by assumption) ?_ | refine BrG.neg (by assumption) ?_ | refine BrG.pos (by decide) ?_ | refine BrG.neg (by decide) ?_) | refine Chk.mk (ptr_ok tblOk rfl rfl) ?_ | refine NilG.mk (fun _ => by kernel_rfl) ?_ | refine Chk.mk (by decide) ?_ | refine hS.ld rfl ?_ | refine hS.ldn rfl ?_ | (refine hS.st rfl rfl ?_; intro _ hS))
            refine Cl.mono (RDone_spec (t := t3) (hS.part (L := [(rb, rdC t3)]))) ?_
            rintro _ w9 ⟨rfl, hS'⟩
            have hS := hS.call0 hS'
            rw [decide_eq_false ht3]
            repeat (first | refine SemW.run tblOk ?_ | refine IntG.nw (by omega) ?_ | refine IntG.nu8 (by omega) ?_ | refine IntG.nu32 (by omega) ?_ | refine IntG.nu64 (by omega) ?_ | refine IntG.wr' rfl ?_ | refine Chk.mk (by omega) ?_ | (refine BrG.id ?_; first | with_reducible refine BrG.t ?_ | with_reducible refine BrG.f ?_ | with_reducible refine BrG.notG ?_ | with_reducible refine BrG.nn ?_ | with_reducible refine BrG.ns ?_ | refine BrG.pos (by omega) ?_ | refine BrG.neg (by omega) ?_ | with_reducible refine BrG.pos rfl ?_ | refine BrG.pos (by assumption) ?_ | refine BrG.neg (by assumption) ?_ | refine BrG.pos (by decide) ?_ | refine BrG.neg (by decide) ?_) | refine Chk.mk (ptr_ok tblOk rfl rfl) ?_ | refine NilG.mk (fun _ => by kernel_rfl) ?_ | refine Chk.mk (by decide) ?_ | refine hS.ld rfl ?_ | refine hS.ldn rfl ?_ | (refine hS.st rfl rfl ?_; intro _ hS))
            exact ⟨rfl, hS.nil⟩
end Go.Proofs.YthpmmfapolcaiaaDoor

/- Plain: cut bytes, and bytes with something behind them, are no command and no reply. -/
namespace Go.Proofs.YthpmmfapolcaiaaDoor
open Go Go.Eng Go.Proofs
/-- What Command answers, as bytes. -/
def cmdT (c : CmdM) : Bytes := if RightC c then frameB (cmdB c) else []
def repT (r : ReplyM) : Bytes := if seatGood r.pax.num r.pax.c = true ∧ (replyB r).length ≤ 65536 then frameB (replyB r) else []
theorem openS_one (x : UInt8) : openS [x] = none := by
  unfold openS
  rw [if_neg]
  rintro ⟨h, -⟩
  exact firstM_short (t := [x]) (k := 0) (by simp) h
theorem cmdT_cut {c : CmdM} (hc : c.ok) {n : Nat} (hn : n < (cmdT c).length) : readC ((cmdT c).take n) = none := by
  unfold cmdT at hn ⊢
  split at hn
  · next h => rw [if_pos h]; unfold readC; rw [openS_cut (cmdB_len hc h.2.2.1 h.2.1) hn]; rfl
  · simp at hn
theorem repT_cut {r : ReplyM} {n : Nat} (hn : n < (repT r).length) : readR ((repT r).take n) = none := by
  unfold repT at hn ⊢
  split at hn
  · next h => rw [if_pos h]; unfold readR; rw [openS_cut h.2 hn]; rfl
  · simp at hn
theorem cmdT_more {c : CmdM} (hc : c.ok) (x : UInt8) : readC (cmdT c ++ [x]) = none := by
  unfold cmdT readC
  split
  · next h => rw [openS_more (cmdB_len hc h.2.2.1 h.2.1) (by simp)]; rfl
  · rw [List.nil_append, openS_one]; rfl
theorem repT_more {r : ReplyM} (x : UInt8) : readR (repT r ++ [x]) = none := by
  unfold repT readR
  split
  · next h => rw [openS_more h.2 (by simp)]; rfl
  · rw [List.nil_append, openS_one]; rfl
theorem frameB_size {p : Bytes} (hp : p.length ≤ 65536) : (frameB p).length ≤ 70000 := by rw [frameB_len]; omega
theorem cmdT_len {c : CmdM} (hc : c.ok) : (cmdT c).length ≤ 70000 := by
  unfold cmdT; split
  · next h => exact frameB_size (cmdB_len hc h.2.2.1 h.2.1)
  · simp
theorem repT_len {r : ReplyM} : (repT r).length ≤ 70000 := by
  unfold repT; split
  · next h => exact frameB_size h.2
  · simp
end Go.Proofs.YthpmmfapolcaiaaDoor

/- What the rows list of strconv's two errors, as a fact on the world. -/
namespace Go.Proofs.YthpmmfapolcaiaaDoor
open Go Go.Eng Go.Proofs Go.RowKit
theorem errStar : "*" ++ "errors.errorString" = "*errors.errorString" := by decide
theorem errRow (u : TypeId) (h : Tryd.prog.typeName? 3 u = some "*errors.errorString") : u = 175 :=
  typeName_ptr_named (nm := "errors.errorString") (by rw [errStar]; kernel_rfl) (by kernel_rfl) (by decide) u (by rw [errStar]; exact h)
theorem errVars_of {r : List (String × DataW Unit)} {W : World} (h : laidMet Tryd.prog (("strconv.ErrRange", Rows.laid_strconv_ErrRange) :: ("strconv.ErrSyntax", Rows.laid_strconv_ErrSyntax) :: r) W) : ErrVars W := by
  obtain ⟨f, hf, hft, hfo⟩ : ∃ f : Field, Tryd.prog.underlying 177 = some (.struct #[f]) ∧ f.type = 9 ∧ f.offset = 0 := ⟨⟨"s", 9, 0, false, "", "errors", 0⟩, by kernel_rfl, rfl, rfl⟩
  have hi : Tryd.prog.underlying 106 = some (.interface (Tryd.prog.methodsAt 106)) := by kernel_rfl
  have g1 : Tryd.prog.globalNamed "strconv.ErrRange" = some errG1 := by kernel_rfl
  have g0 : Tryd.prog.globalNamed "strconv.ErrSyntax" = some errG0 := by kernel_rfl
  obtain ⟨a1, s1, hv1, -, -, -⟩ := laid_sentinel h g1 (ti := 106) (by kernel_rfl) hi errRow (te := 177) (by kernel_rfl) hf hft hfo (by kernel_rfl) (by kernel_rfl) (by kernel_rfl)
  obtain ⟨a0, s0, hv0, -, -, -⟩ := laid_sentinel h.tail g0 (ti := 106) (by kernel_rfl) hi errRow (te := 177) (by kernel_rfl) hf hft hfo (by kernel_rfl) (by kernel_rfl) (by kernel_rfl)
  exact ⟨⟨_, _, by have h0 := World.var?_cell g0 hv0 0; simpa using h0⟩, ⟨_, _, by have h0 := World.var?_cell g1 hv1 0; simpa using h0⟩⟩
end Go.Proofs.YthpmmfapolcaiaaDoor

/- tarmaclaw23.WireWhole. -/
namespace Go.Proofs.YthpmmfapolcaiaaDoor
open Go Go.Eng Go.Proofs
def cmdE (c : CmdM) : Int := if RightC c then 0 else 34
def repE (r : ReplyM) : Int := if seatGood r.pax.num r.pax.c = true ∧ (replyB r).length ≤ 65536 then 0 else 34
theorem cmdO_eq (c : CmdM) : cmdO c = [Str (cmdT c), .int .i64 (cmdE c)] := by unfold cmdO cmdT cmdE; split <;> rfl
theorem repO_eq (r : ReplyM) : repOut r = [Str (repT r), .int .i64 (repE r)] := by unfold repOut repT repE; split <;> rfl
set_option maxRecDepth 4000 in
set_option maxHeartbeats 8000000 in
theorem WireWhole_spec {w : World} {c : CmdM} {r : ReplyM} {a b : Option Addr} {ca cb : Nat} {x : UInt8} (hc : ArgC w c a ca) (hr : ArgR w r b cb) (hE : ErrVars w) :
    Cl Tryd.prog f_tarmaclaw23_WireWhole [cmdV c a ca, .agg ⟨replyC r b cb⟩, byteV x] w fun v w' => v = .bool true ∧ St w [] [] w' := by
  have hS := St.start w
  have hsc := fun k => cmdT_cut (c := c) hc.ok (n := k)
  have htc := fun k => repT_cut (r := r) (n := k)
  have hsm := cmdT_more hc.ok x
  have htm := repT_more (r := r) x
  have hsl := cmdT_len hc.ok
  have htl := repT_len (r := r)
  refine en_tarmaclaw23_WireWhole rfl ?_
  unfold byteV
  repeat (first | refine SemW.run tblOk ?_ | refine IntG.nw (by omega) ?_ | refine IntG.nu8 (by omega) ?_ | refine IntG.nu32 (by omega) ?_ | refine IntG.nu64 (by omega) ?_ | refine IntG.wr' rfl ?_ | refine Chk.mk (by omega) ?_ | (refine BrG.id ?_; first | with_reducible refine BrG.t ?_ | with_reducible refine BrG.f ?_ | with_reducible refine BrG.notG ?_ | with_reducible refine BrG.nn ?_ | with_reducible refine BrG.ns ?_ | refine BrG.pos (by omega) ?_ | refine BrG.neg (by omega) ?_ | with_reducible refine BrG.pos rfl ?_ | refine BrG.pos (by assumption) ?_ | refine BrG.neg (by assumption) ?_ | refine BrG.pos (by decide) ?_ | refine BrG.neg (by decide) ?_) | refine Chk.mk (ptr_ok tblOk rfl rfl) ?_ | refine NilG.mk (fun _ => by kernel_rfl) ?_ | refine Chk.mk (by decide) ?_)
  refine hS.al ?_
  intro b1 w1 _ hS
  repeat (first | refine SemW.run tblOk ?_ | refine IntG.nw (by omega) ?_ | refine IntG.nu8 (by omega) ?_ | refine IntG.nu32 (by omega) ?_ | refine IntG.nu64 (by omega) ?_ | refine IntG.wr' rfl ?_ | refine Chk.mk (by omega) ?_ | (refine BrG.id ?_; first | with_reducible refine BrG.t ?_ | with_reducible refine BrG.f ?_ | with_reducible refine BrG.notG ?_ | with_reducible refine BrG.nn ?_ | with_reducible refine BrG.ns ?_ | refine BrG.pos (by omega) ?_ | refine BrG.neg (by omega) ?_ | with_reducible refine BrG.pos rfl ?_ | refine BrG.pos (by assumption) ?_ | refine BrG.neg (by assumption) ?_ | refine BrG.pos (by decide) ?_ | refine BrG.neg (by decide) ?_) | refine Chk.mk (ptr_ok tblOk rfl rfl) ?_ | refine NilG.mk (fun _ => by kernel_rfl) ?_ | refine Chk.mk (by decide) ?_)
  refine hS.al ?_
  intro b2 w2 _ hS
  repeat (first | refine SemW.run tblOk ?_ | refine IntG.nw (by omega) ?_ | refine IntG.nu8 (by omega) ?_ | refine IntG.nu32 (by omega) ?_ | refine IntG.nu64 (by omega) ?_ | refine IntG.wr' rfl ?_ | refine Chk.mk (by omega) ?_ | (refine BrG.id ?_; first | with_reducible refine BrG.t ?_ | with_reducible refine BrG.f ?_ | with_reducible refine BrG.notG ?_ | with_reducible refine BrG.nn ?_ | with_reducible refine BrG.ns ?_ | refine BrG.pos (by omega) ?_ | refine BrG.neg (by omega) ?_ | with_reducible refine BrG.pos rfl ?_ | refine BrG.pos (by assumption) ?_ | refine BrG.neg (by assumption) ?_ | refine BrG.pos (by decide) ?_ | refine BrG.neg (by decide) ?_) | refine Chk.mk (ptr_ok tblOk rfl rfl) ?_ | refine NilG.mk (fun _ => by kernel_rfl) ?_ | refine Chk.mk (by decide) ?_ | refine hS.ld rfl ?_ | refine hS.ldn rfl ?_ | (refine hS.st rfl rfl ?_; intro _ hS))
  refine Cl.mono lives_spec ?_
  rintro _ w3 ⟨rfl, hS'⟩
  have hS := hS.call0 hS'
  repeat (first | refine SemW.run tblOk ?_ | refine IntG.nw (by omega) ?_ | refine IntG.nu8 (by omega) ?_ | refine IntG.nu32 (by omega) ?_ | refine IntG.nu64 (by omega) ?_ | refine IntG.wr' rfl ?_ | refine Chk.mk (by omega) ?_ | (refine BrG.id ?_; first | with_reducible refine BrG.t ?_ | with_reducible refine BrG.f ?_ | with_reducible refine BrG.notG ?_ | with_reducible refine BrG.nn ?_ | with_reducible refine BrG.ns ?_ | refine BrG.pos (by omega) ?_ | refine BrG.neg (by omega) ?_ | with_reducible refine BrG.pos rfl ?_ | refine BrG.pos (by assumption) ?_ | refine BrG.neg (by assumption) ?_ | refine BrG.pos (by decide) ?_ | refine BrG.neg (by decide) ?_) | refine Chk.mk (ptr_ok tblOk rfl rfl) ?_ | refine NilG.mk (fun _ => by kernel_rfl) ?_ | refine Chk.mk (by decide) ?_ | refine hS.ld rfl ?_ | refine hS.ldn rfl ?_ | (refine hS.st rfl rfl ?_; intro _ hS))
  refine Cl.mono (Command_spec (hc.keep hS.nil)) ?_
  rintro _ w4 ⟨rfl, hS'⟩
  have hS := hS.call0 hS'
  rw [cmdO_eq]
  repeat (first | refine SemW.run tblOk ?_ | refine IntG.nw (by omega) ?_ | refine IntG.nu8 (by omega) ?_ | refine IntG.nu32 (by omega) ?_ | refine IntG.nu64 (by omega) ?_ | refine IntG.wr' rfl ?_ | refine Chk.mk (by omega) ?_ | (refine BrG.id ?_; first | with_reducible refine BrG.t ?_ | with_reducible refine BrG.f ?_ | with_reducible refine BrG.notG ?_ | with_reducible refine BrG.nn ?_ | with_reducible refine BrG.ns ?_ | refine BrG.pos (by omega) ?_ | refine BrG.neg (by omega) ?_ | with_reducible refine BrG.pos rfl ?_ | refine BrG.pos (by assumption) ?_ | refine BrG.neg (by assumption) ?_ | refine BrG.pos (by decide) ?_ | refine BrG.neg (by decide) ?_) | refine Chk.mk (ptr_ok tblOk rfl rfl) ?_ | refine NilG.mk (fun _ => by kernel_rfl) ?_ | refine Chk.mk (by decide) ?_ | refine hS.ld rfl ?_ | refine hS.ldn rfl ?_ | (refine hS.st rfl rfl ?_; intro _ hS))
  refine Cl.mono (Reply_spec (hr.keep hS.nil)) ?_
  rintro _ w5 ⟨rfl, hS'⟩
  have hS := hS.call0 hS'
  rw [repO_eq]
  repeat (first | refine SemW.run tblOk ?_ | refine IntG.nw (by omega) ?_ | refine IntG.nu8 (by omega) ?_ | refine IntG.nu32 (by omega) ?_ | refine IntG.nu64 (by omega) ?_ | refine IntG.wr' rfl ?_ | refine Chk.mk (by omega) ?_ | (refine BrG.id ?_; first | with_reducible refine BrG.t ?_ | with_reducible refine BrG.f ?_ | with_reducible refine BrG.notG ?_ | with_reducible refine BrG.nn ?_ | with_reducible refine BrG.ns ?_ | refine BrG.pos (by omega) ?_ | refine BrG.neg (by omega) ?_ | with_reducible refine BrG.pos rfl ?_ | refine BrG.pos (by assumption) ?_ | refine BrG.neg (by assumption) ?_ | refine BrG.pos (by decide) ?_ | refine BrG.neg (by decide) ?_) | refine Chk.mk (ptr_ok tblOk rfl rfl) ?_ | refine NilG.mk (fun _ => by kernel_rfl) ?_ | refine Chk.mk (by decide) ?_ | refine hS.ld rfl ?_ | refine hS.ldn rfl ?_ | (refine hS.st rfl rfl ?_; intro _ hS))
  have hS := hS.nil
  generalize cmdT c = s at hsc hsm hsl ⊢
  generalize repT r = t at htc htm htl ⊢
  generalize cmdE c = e
  generalize repE r = f
  refine SemW.loop (fun k : Nat => [(2, .int .u8 x.toNat), (7, Str s), (8, .int .i64 e), (9, Str t), (10, .int .i64 f), (11, .int .i64 k)])
    (fun k w' => k ≤ 200 ∧ St w [] [] w') (fun k => 200 - k) 0
    ⟨rfl, rfl, rfl, rfl, rfl, rfl, trivial⟩ ⟨Nat.zero_le _, hS⟩ ?_
  clear hS
  rintro k w1 ⟨hk, hS⟩
  by_cases hkl : k < 200
  · by_cases he0 : e = 0
    · by_cases hks : k < s.length
      · repeat (first | refine SemW.run tblOk ?_ | refine IntG.nw (by omega) ?_ | refine IntG.nu8 (by omega) ?_ | refine IntG.nu32 (by omega) ?_ | refine IntG.nu64 (by omega) ?_ | refine IntG.wr' rfl ?_ | refine Chk.mk (by omega) ?_ | (refine BrG.id ?_; first | with_reducible refine BrG.t ?_ | with_reducible refine BrG.f ?_ | with_reducible refine BrG.notG ?_ | with_reducible refine BrG.nn ?_ | with_reducible refine BrG.ns ?_ | refine BrG.pos (by omega) ?_ | refine BrG.neg (by omega) ?_ | with_reducible refine BrG.pos rfl ?_ | refine BrG.pos (by assumption) ?_ | refine BrG.neg (by assumption) ?_ | refine BrG.pos (by decide) ?_ | refine BrG.neg (by decide) ?_) | refine Chk.mk (ptr_ok tblOk rfl rfl) ?_ | refine NilG.mk (fun _ => by kernel_rfl) ?_ | refine Chk.mk (by decide) ?_ | refine hS.ld rfl ?_ | refine hS.ldn rfl ?_ | (refine hS.st rfl rfl ?_; intro _ hS))
        refine Cl.mono (ReadCommand_spec (t := s.take k) (by simp only [List.length_take]; omega)) ?_
        intro v w4 hP
        rw [hsc k hks] at hP
        obtain ⟨rfl, hS'⟩ := hP
        have hS := hS.call0 hS'
        clear hS'
        repeat (first | refine SemW.run tblOk ?_ | refine IntG.nw (by omega) ?_ | refine IntG.nu8 (by omega) ?_ | refine IntG.nu32 (by omega) ?_ | refine IntG.nu64 (by omega) ?_ | refine IntG.wr' rfl ?_ | refine Chk.mk (by omega) ?_ | (refine BrG.id ?_; first | with_reducible refine BrG.t ?_ | with_reducible refine BrG.f ?_ | with_reducible refine BrG.notG ?_ | with_reducible refine BrG.nn ?_ | with_reducible refine BrG.ns ?_ | refine BrG.pos (by omega) ?_ | refine BrG.neg (by omega) ?_ | with_reducible refine BrG.pos rfl ?_ | refine BrG.pos (by assumption) ?_ | refine BrG.neg (by assumption) ?_ | refine BrG.pos (by decide) ?_ | refine BrG.neg (by decide) ?_) | refine Chk.mk (ptr_ok tblOk rfl rfl) ?_ | refine NilG.mk (fun _ => by kernel_rfl) ?_ | refine Chk.mk (by decide) ?_ | refine hS.ld rfl ?_ | refine hS.ldn rfl ?_ | (refine hS.st rfl rfl ?_; intro _ hS))
        refine hS.al ?_
        intro b4 w5 _ hS
        repeat (first | refine SemW.run tblOk ?_ | refine IntG.nw (by omega) ?_ | refine IntG.nu8 (by omega) ?_ | refine IntG.nu32 (by omega) ?_ | refine IntG.nu64 (by omega) ?_ | refine IntG.wr' rfl ?_ | refine Chk.mk (by omega) ?_ | (refine BrG.id ?_; first | with_reducible refine BrG.t ?_ | with_reducible refine BrG.f ?_ | with_reducible refine BrG.notG ?_ | with_reducible refine BrG.nn ?_ | with_reducible refine BrG.ns ?_ | refine BrG.pos (by omega) ?_ | refine BrG.neg (by omega) ?_ | with_reducible refine BrG.pos rfl ?_ | refine BrG.pos (by assumption) ?_ | refine BrG.neg (by assumption) ?_ | refine BrG.pos (by decide) ?_ | refine BrG.neg (by decide) ?_) | refine Chk.mk (ptr_ok tblOk rfl rfl) ?_ | refine NilG.mk (fun _ => by kernel_rfl) ?_ | refine Chk.mk (by decide) ?_ | refine hS.ld rfl ?_ | refine hS.ldn rfl ?_ | (refine hS.st rfl rfl ?_; intro _ hS))
        by_cases hf : f = 0 ∧ k < t.length
        · obtain ⟨hf0, hkt⟩ := hf
          repeat (first | refine SemW.run tblOk ?_ | refine IntG.nw (by omega) ?_ | refine IntG.nu8 (by omega) ?_ | refine IntG.nu32 (by omega) ?_ | refine IntG.nu64 (by omega) ?_ | refine IntG.wr' rfl ?_ | refine Chk.mk (by omega) ?_ | (refine BrG.id ?_; first | with_reducible refine BrG.t ?_ | with_reducible refine BrG.f ?_ | with_reducible refine BrG.notG ?_ | with_reducible refine BrG.nn ?_ | with_reducible refine BrG.ns ?_ | refine BrG.pos (by omega) ?_ | refine BrG.neg (by omega) ?_ | with_reducible refine BrG.pos rfl ?_ | refine BrG.pos (by assumption) ?_ | refine BrG.neg (by assumption) ?_ | refine BrG.pos (by decide) ?_ | refine BrG.neg (by decide) ?_) | refine Chk.mk (ptr_ok tblOk rfl rfl) ?_ | refine NilG.mk (fun _ => by kernel_rfl) ?_ | refine Chk.mk (by decide) ?_ | refine hS.ld rfl ?_ | refine hS.ldn rfl ?_ | (refine hS.st rfl rfl ?_; intro _ hS))
          refine Cl.mono (ReadReply_spec (t := t.take k) (by simp only [List.length_take]; omega) (hE.keep hS (by simp) (by simp))) ?_
          intro v w6 hP
          rw [htc k hkt] at hP
          obtain ⟨rfl, hS'⟩ := hP
          have hS := hS.call0 hS'
          clear hS'
          repeat (first | refine SemW.run tblOk ?_ | refine IntG.nw (by omega) ?_ | refine IntG.nu8 (by omega) ?_ | refine IntG.nu32 (by omega) ?_ | refine IntG.nu64 (by omega) ?_ | refine IntG.wr' rfl ?_ | refine Chk.mk (by omega) ?_ | (refine BrG.id ?_; first | with_reducible refine BrG.t ?_ | with_reducible refine BrG.f ?_ | with_reducible refine BrG.notG ?_ | with_reducible refine BrG.nn ?_ | with_reducible refine BrG.ns ?_ | refine BrG.pos (by omega) ?_ | refine BrG.neg (by omega) ?_ | with_reducible refine BrG.pos rfl ?_ | refine BrG.pos (by assumption) ?_ | refine BrG.neg (by assumption) ?_ | refine BrG.pos (by decide) ?_ | refine BrG.neg (by decide) ?_) | refine Chk.mk (ptr_ok tblOk rfl rfl) ?_ | refine NilG.mk (fun _ => by kernel_rfl) ?_ | refine Chk.mk (by decide) ?_ | refine hS.ld rfl ?_ | refine hS.ldn rfl ?_ | (refine hS.st rfl rfl ?_; intro _ hS))
          refine hS.al ?_
          intro b5 w7 _ hS
          repeat (first | refine SemW.run tblOk ?_ | refine IntG.nw (by omega) ?_ | refine IntG.nu8 (by omega) ?_ | refine IntG.nu32 (by omega) ?_ | refine IntG.nu64 (by omega) ?_ | refine IntG.wr' rfl ?_ | refine Chk.mk (by omega) ?_ | (refine BrG.id ?_; first | with_reducible refine BrG.t ?_ | with_reducible refine BrG.f ?_ | with_reducible refine BrG.notG ?_ | with_reducible refine BrG.nn ?_ | with_reducible refine BrG.ns ?_ | refine BrG.pos (by omega) ?_ | refine BrG.neg (by omega) ?_ | with_reducible refine BrG.pos rfl ?_ | refine BrG.pos (by assumption) ?_ | refine BrG.neg (by assumption) ?_ | refine BrG.pos (by decide) ?_ | refine BrG.neg (by decide) ?_) | refine Chk.mk (ptr_ok tblOk rfl rfl) ?_ | refine NilG.mk (fun _ => by kernel_rfl) ?_ | refine Chk.mk (by decide) ?_ | refine hS.ld rfl ?_ | refine hS.ldn rfl ?_ | (refine hS.st rfl rfl ?_; intro _ hS))
          exact ⟨k + 1, ⟨rfl, rfl, rfl, rfl, rfl, rfl, trivial⟩, ⟨by omega, hS.nil⟩, by omega⟩
        · by_cases hf0 : f = 0
          · have hkt : ¬ k < t.length := fun h => hf ⟨hf0, h⟩
            repeat (first | refine SemW.run tblOk ?_ | refine IntG.nw (by omega) ?_ | refine IntG.nu8 (by omega) ?_ | refine IntG.nu32 (by omega) ?_ | refine IntG.nu64 (by omega) ?_ | refine IntG.wr' rfl ?_ | refine Chk.mk (by omega) ?_ | (refine BrG.id ?_; first | with_reducible refine BrG.t ?_ | with_reducible refine BrG.f ?_ | with_reducible refine BrG.notG ?_ | with_reducible refine BrG.nn ?_ | with_reducible refine BrG.ns ?_ | refine BrG.pos (by omega) ?_ | refine BrG.neg (by omega) ?_ | with_reducible refine BrG.pos rfl ?_ | refine BrG.pos (by assumption) ?_ | refine BrG.neg (by assumption) ?_ | refine BrG.pos (by decide) ?_ | refine BrG.neg (by decide) ?_) | refine Chk.mk (ptr_ok tblOk rfl rfl) ?_ | refine NilG.mk (fun _ => by kernel_rfl) ?_ | refine Chk.mk (by decide) ?_ | refine hS.ld rfl ?_ | refine hS.ldn rfl ?_ | (refine hS.st rfl rfl ?_; intro _ hS))
            exact ⟨k + 1, ⟨rfl, rfl, rfl, rfl, rfl, rfl, trivial⟩, ⟨by omega, hS.nil⟩, by omega⟩
          · repeat (first | refine SemW.run tblOk ?_ | refine IntG.nw (by omega) ?_ | refine IntG.nu8 (by omega) ?_ | refine IntG.nu32 (by omega) ?_ | refine IntG.nu64 (by omega) ?_ | refine IntG.wr' rfl ?_ | refine Chk.mk (by omega) ?_ | (refine BrG.id ?_; first | with_reducible refine BrG.t ?_ | with_reducible refine BrG.f ?_ | with_reducible refine BrG.notG ?_ | with_reducible refine BrG.nn ?_ | with_reducible refine BrG.ns ?_ | refine BrG.pos (by omega) ?_ | refine BrG.neg (by omega) ?_ | with_reducible refine BrG.pos rfl ?_ | refine BrG.pos (by assumption) ?_ | refine BrG.neg (by assumption) ?_ | refine BrG.pos (by decide) ?_ | refine BrG.neg (by decide) ?_) | refine Chk.mk (ptr_ok tblOk rfl rfl) ?_ | refine NilG.mk (fun _ => by kernel_rfl) ?_ | refine Chk.mk (by decide) ?_ | refine hS.ld rfl ?_ | refine hS.ldn rfl ?_ | (refine hS.st rfl rfl ?_; intro _ hS))
            exact ⟨k + 1, ⟨rfl, rfl, rfl, rfl, rfl, rfl, trivial⟩, ⟨by omega, hS.nil⟩, by omega⟩
      · repeat (first | refine SemW.run tblOk ?_ | refine IntG.nw (by omega) ?_ | refine IntG.nu8 (by omega) ?_ | refine IntG.nu32 (by omega) ?_ | refine IntG.nu64 (by omega) ?_ | refine IntG.wr' rfl ?_ | refine Chk.mk (by omega) ?_ | (refine BrG.id ?_; first | with_reducible refine BrG.t ?_ | with_reducible refine BrG.f ?_ | with_reducible refine BrG.notG ?_ | with_reducible refine BrG.nn ?_ | with_reducible refine BrG.ns ?_ | refine BrG.pos (by omega) ?_ | refine BrG.neg (by omega) ?_ | with_reducible refine BrG.pos rfl ?_ | refine BrG.pos (by assumption) ?_ | refine BrG.neg (by assumption) ?_ | refine BrG.pos (by decide) ?_ | refine BrG.neg (by decide) ?_) | refine Chk.mk (ptr_ok tblOk rfl rfl) ?_ | refine NilG.mk (fun _ => by kernel_rfl) ?_ | refine Chk.mk (by decide) ?_ | refine hS.ld rfl ?_ | refine hS.ldn rfl ?_ | (refine hS.st rfl rfl ?_; intro _ hS))
        by_cases hf : f = 0 ∧ k < t.length
        · obtain ⟨hf0, hkt⟩ := hf
          repeat (first | refine SemW.run tblOk ?_ | refine IntG.nw (by omega) ?_ | refine IntG.nu8 (by omega) ?_ | refine IntG.nu32 (by omega) ?_ | refine IntG.nu64 (by omega) ?_ | refine IntG.wr' rfl ?_ | refine Chk.mk (by omega) ?_ | (refine BrG.id ?_; first | with_reducible refine BrG.t ?_ | with_reducible refine BrG.f ?_ | with_reducible refine BrG.notG ?_ | with_reducible refine BrG.nn ?_ | with_reducible refine BrG.ns ?_ | refine BrG.pos (by omega) ?_ | refine BrG.neg (by omega) ?_ | with_reducible refine BrG.pos rfl ?_ | refine BrG.pos (by assumption) ?_ | refine BrG.neg (by assumption) ?_ | refine BrG.pos (by decide) ?_ | refine BrG.neg (by decide) ?_) | refine Chk.mk (ptr_ok tblOk rfl rfl) ?_ | refine NilG.mk (fun _ => by kernel_rfl) ?_ | refine Chk.mk (by decide) ?_ | refine hS.ld rfl ?_ | refine hS.ldn rfl ?_ | (refine hS.st rfl rfl ?_; intro _ hS))
          refine Cl.mono (ReadReply_spec (t := t.take k) (by simp only [List.length_take]; omega) (hE.keep hS (by simp) (by simp))) ?_
          intro v w6 hP
          rw [htc k hkt] at hP
          obtain ⟨rfl, hS'⟩ := hP
          have hS := hS.call0 hS'
          clear hS'
          repeat (first | refine SemW.run tblOk ?_ | refine IntG.nw (by omega) ?_ | refine IntG.nu8 (by omega) ?_ | refine IntG.nu32 (by omega) ?_ | refine IntG.nu64 (by omega) ?_ | refine IntG.wr' rfl ?_ | refine Chk.mk (by omega) ?_ | (refine BrG.id ?_; first | with_reducible refine BrG.t ?_ | with_reducible refine BrG.f ?_ | with_reducible refine BrG.notG ?_ | with_reducible refine BrG.nn ?_ | with_reducible refine BrG.ns ?_ | refine BrG.pos (by omega) ?_ | refine BrG.neg (by omega) ?_ | with_reducible refine BrG.pos rfl ?_ | refine BrG.pos (by assumption) ?_ | refine BrG.neg (by assumption) ?_ | refine BrG.pos (by decide) ?_ | refine BrG.neg (by decide) ?_) | refine Chk.mk (ptr_ok tblOk rfl rfl) ?_ | refine NilG.mk (fun _ => by kernel_rfl) ?_ | refine Chk.mk (by decide) ?_ | refine hS.ld rfl ?_ | refine hS.ldn rfl ?_ | (refine hS.st rfl rfl ?_; intro _ hS))
          refine hS.al ?_
          intro b5 w7 _ hS
          repeat (first | refine SemW.run tblOk ?_ | refine IntG.nw (by omega) ?_ | refine IntG.nu8 (by omega) ?_ | refine IntG.nu32 (by omega) ?_ | refine IntG.nu64 (by omega) ?_ | refine IntG.wr' rfl ?_ | refine Chk.mk (by omega) ?_ | (refine BrG.id ?_; first | with_reducible refine BrG.t ?_ | with_reducible refine BrG.f ?_ | with_reducible refine BrG.notG ?_ | with_reducible refine BrG.nn ?_ | with_reducible refine BrG.ns ?_ | refine BrG.pos (by omega) ?_ | refine BrG.neg (by omega) ?_ | with_reducible refine BrG.pos rfl ?_ | refine BrG.pos (by assumption) ?_ | refine BrG.neg (by assumption) ?_ | refine BrG.pos (by decide) ?_ | refine BrG.neg (by decide) ?_) | refine Chk.mk (ptr_ok tblOk rfl rfl) ?_ | refine NilG.mk (fun _ => by kernel_rfl) ?_ | refine Chk.mk (by decide) ?_ | refine hS.ld rfl ?_ | refine hS.ldn rfl ?_ | (refine hS.st rfl rfl ?_; intro _ hS))
          exact ⟨k + 1, ⟨rfl, rfl, rfl, rfl, rfl, rfl, trivial⟩, ⟨by omega, hS.nil⟩, by omega⟩
        · by_cases hf0 : f = 0
          · have hkt : ¬ k < t.length := fun h => hf ⟨hf0, h⟩
            repeat (first | refine SemW.run tblOk ?_ | refine IntG.nw (by omega) ?_ | refine IntG.nu8 (by omega) ?_ | refine IntG.nu32 (by omega) ?_ | refine IntG.nu64 (by omega) ?_ | refine IntG.wr' rfl ?_ | refine Chk.mk (by omega) ?_ | (refine BrG.id ?_; first | with_reducible refine BrG.t ?_ | with_reducible refine BrG.f ?_ | with_reducible refine BrG.notG ?_ | with_reducible refine BrG.nn ?_ | with_reducible refine BrG.ns ?_ | refine BrG.pos (by omega) ?_ | refine BrG.neg (by omega) ?_ | with_reducible refine BrG.pos rfl ?_ | refine BrG.pos (by assumption) ?_ | refine BrG.neg (by assumption) ?_ | refine BrG.pos (by decide) ?_ | refine BrG.neg (by decide) ?_) | refine Chk.mk (ptr_ok tblOk rfl rfl) ?_ | refine NilG.mk (fun _ => by kernel_rfl) ?_ | refine Chk.mk (by decide) ?_ | refine hS.ld rfl ?_ | refine hS.ldn rfl ?_ | (refine hS.st rfl rfl ?_; intro _ hS))
            exact ⟨k + 1, ⟨rfl, rfl, rfl, rfl, rfl, rfl, trivial⟩, ⟨by omega, hS.nil⟩, by omega⟩
          · repeat (first | refine SemW.run tblOk ?_ | refine IntG.nw (by omega) ?_ | refine IntG.nu8 (by omega) ?_ | refine IntG.nu32 (by omega) ?_ | refine IntG.nu64 (by omega) ?_ | refine IntG.wr' rfl ?_ | refine Chk.mk (by omega) ?_ | (refine BrG.id ?_; first | with_reducible refine BrG.t ?_ | with_reducible refine BrG.f ?_ | with_reducible refine BrG.notG ?_ | with_reducible refine BrG.nn ?_ | with_reducible refine BrG.ns ?_ | refine BrG.pos (by omega) ?_ | refine BrG.neg (by omega) ?_ | with_reducible refine BrG.pos rfl ?_ | refine BrG.pos (by assumption) ?_ | refine BrG.neg (by assumption) ?_ | refine BrG.pos (by decide) ?_ | refine BrG.neg (by decide) ?_) | refine Chk.mk (ptr_ok tblOk rfl rfl) ?_ | refine NilG.mk (fun _ => by kernel_rfl) ?_ | refine Chk.mk (by decide) ?_ | refine hS.ld rfl ?_ | refine hS.ldn rfl ?_ | (refine hS.st rfl rfl ?_; intro _ hS))
            exact ⟨k + 1, ⟨rfl, rfl, rfl, rfl, rfl, rfl, trivial⟩, ⟨by omega, hS.nil⟩, by omega⟩
    · repeat (first | refine SemW.run tblOk ?_ | refine IntG.nw (by omega) ?_ | refine IntG.nu8 (by omega) ?_ | refine IntG.nu32 (by omega) ?_ | refine IntG.nu64 (by omega) ?_ | refine IntG.wr' rfl ?_ | refine Chk.mk (by omega) ?_ | (refine BrG.id ?_; first | with_reducible refine BrG.t ?_ | with_reducible refine BrG.f ?_ | with_reducible refine BrG.notG ?_ | with_reducible refine BrG.nn ?_ | with_reducible refine BrG.ns ?_ | refine BrG.pos (by omega) ?_ | refine BrG.neg (by omega) ?_ | with_reducible refine BrG.pos rfl ?_ | refine BrG.pos (by assumption) ?_ | refine BrG.neg (by assumption) ?_ | refine BrG.pos (by decide) ?_ | refine BrG.neg (by decide) ?_) | refine Chk.mk (ptr_ok tblOk rfl rfl) ?_ | refine NilG.mk (fun _ => by kernel_rfl) ?_ | refine Chk.mk (by decide) ?_ | refine hS.ld rfl ?_ | refine hS.ldn rfl ?_ | (refine hS.st rfl rfl ?_; intro _ hS))
      by_cases hf : f = 0 ∧ k < t.length
      · obtain ⟨hf0, hkt⟩ := hf
        repeat (first | refine SemW.run tblOk ?_ | refine IntG.nw (by omega) ?_ | refine IntG.nu8 (by omega) ?_ | refine IntG.nu32 (by omega) ?_ | refine IntG.nu64 (by omega) ?_ | refine IntG.wr' rfl ?_ | refine Chk.mk (by omega) ?_ | (refine BrG.id ?_; first | with_reducible refine BrG.t ?_ | with_reducible refine BrG.f ?_ | with_reducible refine BrG.notG ?_ | with_reducible refine BrG.nn ?_ | with_reducible refine BrG.ns ?_ | refine BrG.pos (by omega) ?_ | refine BrG.neg (by omega) ?_ | with_reducible refine BrG.pos rfl ?_ | refine BrG.pos (by assumption) ?_ | refine BrG.neg (by assumption) ?_ | refine BrG.pos (by decide) ?_ | refine BrG.neg (by decide) ?_) | refine Chk.mk (ptr_ok tblOk rfl rfl) ?_ | refine NilG.mk (fun _ => by kernel_rfl) ?_ | refine Chk.mk (by decide) ?_ | refine hS.ld rfl ?_ | refine hS.ldn rfl ?_ | (refine hS.st rfl rfl ?_; intro _ hS))
        refine Cl.mono (ReadReply_spec (t := t.take k) (by simp only [List.length_take]; omega) (hE.keep hS (by simp) (by simp))) ?_
        intro v w6 hP
        rw [htc k hkt] at hP
        obtain ⟨rfl, hS'⟩ := hP
        have hS := hS.call0 hS'
        clear hS'
        repeat (first | refine SemW.run tblOk ?_ | refine IntG.nw (by omega) ?_ | refine IntG.nu8 (by omega) ?_ | refine IntG.nu32 (by omega) ?_ | refine IntG.nu64 (by omega) ?_ | refine IntG.wr' rfl ?_ | refine Chk.mk (by omega) ?_ | (refine BrG.id ?_; first | with_reducible refine BrG.t ?_ | with_reducible refine BrG.f ?_ | with_reducible refine BrG.notG ?_ | with_reducible refine BrG.nn ?_ | with_reducible refine BrG.ns ?_ | refine BrG.pos (by omega) ?_ | refine BrG.neg (by omega) ?_ | with_reducible refine BrG.pos rfl ?_ | refine BrG.pos (by assumption) ?_ | refine BrG.neg (by assumption) ?_ | refine BrG.pos (by decide) ?_ | refine BrG.neg (by decide) ?_) | refine Chk.mk (ptr_ok tblOk rfl rfl) ?_ | refine NilG.mk (fun _ => by kernel_rfl) ?_ | refine Chk.mk (by decide) ?_ | refine hS.ld rfl ?_ | refine hS.ldn rfl ?_ | (refine hS.st rfl rfl ?_; intro _ hS))
        refine hS.al ?_
        intro b5 w7 _ hS
        repeat (first | refine SemW.run tblOk ?_ | refine IntG.nw (by omega) ?_ | refine IntG.nu8 (by omega) ?_ | refine IntG.nu32 (by omega) ?_ | refine IntG.nu64 (by omega) ?_ | refine IntG.wr' rfl ?_ | refine Chk.mk (by omega) ?_ | (refine BrG.id ?_; first | with_reducible refine BrG.t ?_ | with_reducible refine BrG.f ?_ | with_reducible refine BrG.notG ?_ | with_reducible refine BrG.nn ?_ | with_reducible refine BrG.ns ?_ | refine BrG.pos (by omega) ?_ | refine BrG.neg (by omega) ?_ | with_reducible refine BrG.pos rfl ?_ | refine BrG.pos (by assumption) ?_ | refine BrG.neg (by assumption) ?_ | refine BrG.pos (by decide) ?_ | refine BrG.neg (by decide) ?_) | refine Chk.mk (ptr_ok tblOk rfl rfl) ?_ | refine NilG.mk (fun _ => by kernel_rfl) ?_ | refine Chk.mk (by decide) ?_ | refine hS.ld rfl ?_ | refine hS.ldn rfl ?_ | (refine hS.st rfl rfl ?_; intro _ hS))
        exact ⟨k + 1, ⟨rfl, rfl, rfl, rfl, rfl, rfl, trivial⟩, ⟨by omega, hS.nil⟩, by omega⟩
      · by_cases hf0 : f = 0
        · have hkt : ¬ k < t.length := fun h => hf ⟨hf0, h⟩
          repeat (first | refine SemW.run tblOk ?_ | refine IntG.nw (by omega) ?_ | refine IntG.nu8 (by omega) ?_ | refine IntG.nu32 (by omega) ?_ | refine IntG.nu64 (by omega) ?_ | refine IntG.wr' rfl ?_ | refine Chk.mk (by omega) ?_ | (refine BrG.id ?_; first | with_reducible refine BrG.t ?_ | with_reducible refine BrG.f ?_ | with_reducible refine BrG.notG ?_ | with_reducible refine BrG.nn ?_ | with_reducible refine BrG.ns ?_ | refine BrG.pos (by omega) ?_ | refine BrG.neg (by omega) ?_ | with_reducible refine BrG.pos rfl ?_ | refine BrG.pos (by assumption) ?_ | refine BrG.neg (by assumption) ?_ | refine BrG.pos (by decide) ?_ | refine BrG.neg (by decide) ?_) | refine Chk.mk (ptr_ok tblOk rfl rfl) ?_ | refine NilG.mk (fun _ => by kernel_rfl) ?_ | refine Chk.mk (by decide) ?_ | refine hS.ld rfl ?_ | refine hS.ldn rfl ?_ | (refine hS.st rfl rfl ?_; intro _ hS))
          exact ⟨k + 1, ⟨rfl, rfl, rfl, rfl, rfl, rfl, trivial⟩, ⟨by omega, hS.nil⟩, by omega⟩
        · repeat (first | refine SemW.run tblOk ?_ | refine IntG.nw (by omega) ?_ | refine IntG.nu8 (by omega) ?_ | refine IntG.nu32 (by omega) ?_ | refine IntG.nu64 (by omega) ?_ | refine IntG.wr' rfl ?_ | refine Chk.mk (by omega) ?_ | (refine BrG.id ?_; first | with_reducible refine BrG.t ?_ | with_reducible refine BrG.f ?_ | with_reducible refine BrG.notG ?_ | with_reducible refine BrG.nn ?_ | with_reducible refine BrG.ns ?_ | refine BrG.pos (by omega) ?_ | refine BrG.neg (by omega) ?_ | with_reducible refine BrG.pos rfl ?_ | refine BrG.pos (by assumption) ?_ | refine BrG.neg (by assumption) ?_ | refine BrG.pos (by decide) ?_ | refine BrG.neg (by decide) ?_) | refine Chk.mk (ptr_ok tblOk rfl rfl) ?_ | refine NilG.mk (fun _ => by kernel_rfl) ?_ | refine Chk.mk (by decide) ?_ | refine hS.ld rfl ?_ | refine hS.ldn rfl ?_ | (refine hS.st rfl rfl ?_; intro _ hS))
          exact ⟨k + 1, ⟨rfl, rfl, rfl, rfl, rfl, rfl, trivial⟩, ⟨by omega, hS.nil⟩, by omega⟩
  · repeat (first | refine SemW.run tblOk ?_ | refine IntG.nw (by omega) ?_ | refine IntG.nu8 (by omega) ?_ | refine IntG.nu32 (by omega) ?_ | refine IntG.nu64 (by omega) ?_ | refine IntG.wr' rfl ?_ | refine Chk.mk (by omega) ?_ | (refine BrG.id ?_; first | with_reducible refine BrG.t ?_ | with_reducible refine BrG.f ?_ | with_reducible refine BrG.notG ?_ | with_reducible refine BrG.nn ?_ | with_reducible refine BrG.ns ?_ | refine BrG.pos (by omega) ?_ | refine BrG.neg (by omega) ?_ | with_reducible refine BrG.pos rfl ?_ | refine BrG.pos (by assumption) ?_ | refine BrG.neg (by assumption) ?_ | refine BrG.pos (by decide) ?_ | refine BrG.neg (by decide) ?_) | refine Chk.mk (ptr_ok tblOk rfl rfl) ?_ | refine NilG.mk (fun _ => by kernel_rfl) ?_ | refine Chk.mk (by decide) ?_ | refine hS.ld rfl ?_ | refine hS.ldn rfl ?_ | (refine hS.st rfl rfl ?_; intro _ hS))
    refine hS.al ?_
    intro q1 w2 _ hS
    repeat (first | refine SemW.run tblOk ?_ | refine IntG.nw (by omega) ?_ | refine IntG.nu8 (by omega) ?_ | refine IntG.nu32 (by omega) ?_ | refine IntG.nu64 (by omega) ?_ | refine IntG.wr' rfl ?_ | refine Chk.mk (by omega) ?_ | (refine BrG.id ?_; first | with_reducible refine BrG.t ?_ | with_reducible refine BrG.f ?_ | with_reducible refine BrG.notG ?_ | with_reducible refine BrG.nn ?_ | with_reducible refine BrG.ns ?_ | refine BrG.pos (by omega) ?_ | refine BrG.neg (by omega) ?_ | with_reducible refine BrG.pos rfl ?_ | refine BrG.pos (by assumption) ?_ | refine BrG.neg (by assumption) ?_ | refine BrG.pos (by decide) ?_ | refine BrG.neg (by decide) ?_) | refine Chk.mk (ptr_ok tblOk rfl rfl) ?_ | refine NilG.mk (fun _ => by kernel_rfl) ?_ | refine Chk.mk (by decide) ?_ | refine hS.ld rfl ?_ | refine hS.ldn rfl ?_ | (refine hS.st rfl rfl ?_; intro _ hS))
    refine toStr (T := []) tblOk rfl rfl rfl rfl rfl rfl (bs := [x]) rfl (fun w' hw' => by subst hw'; exact hS.arr (b := q1) (by simp)) ?_
    repeat (first | refine SemW.run tblOk ?_ | refine IntG.nw (by omega) ?_ | refine IntG.nu8 (by omega) ?_ | refine IntG.nu32 (by omega) ?_ | refine IntG.nu64 (by omega) ?_ | refine IntG.wr' rfl ?_ | refine Chk.mk (by omega) ?_ | (refine BrG.id ?_; first | with_reducible refine BrG.t ?_ | with_reducible refine BrG.f ?_ | with_reducible refine BrG.notG ?_ | with_reducible refine BrG.nn ?_ | with_reducible refine BrG.ns ?_ | refine BrG.pos (by omega) ?_ | refine BrG.neg (by omega) ?_ | with_reducible refine BrG.pos rfl ?_ | refine BrG.pos (by assumption) ?_ | refine BrG.neg (by assumption) ?_ | refine BrG.pos (by decide) ?_ | refine BrG.neg (by decide) ?_) | refine Chk.mk (ptr_ok tblOk rfl rfl) ?_ | refine NilG.mk (fun _ => by kernel_rfl) ?_ | refine Chk.mk (by decide) ?_ | refine hS.ld rfl ?_ | refine hS.ldn rfl ?_ | (refine hS.st rfl rfl ?_; intro _ hS))
    refine Chk.mk (by simp only [List.length_singleton]; omega) ?_
    repeat (first | refine SemW.run tblOk ?_ | refine IntG.nw (by omega) ?_ | refine IntG.nu8 (by omega) ?_ | refine IntG.nu32 (by omega) ?_ | refine IntG.nu64 (by omega) ?_ | refine IntG.wr' rfl ?_ | refine Chk.mk (by omega) ?_ | (refine BrG.id ?_; first | with_reducible refine BrG.t ?_ | with_reducible refine BrG.f ?_ | with_reducible refine BrG.notG ?_ | with_reducible refine BrG.nn ?_ | with_reducible refine BrG.ns ?_ | refine BrG.pos (by omega) ?_ | refine BrG.neg (by omega) ?_ | with_reducible refine BrG.pos rfl ?_ | refine BrG.pos (by assumption) ?_ | refine BrG.neg (by assumption) ?_ | refine BrG.pos (by decide) ?_ | refine BrG.neg (by decide) ?_) | refine Chk.mk (ptr_ok tblOk rfl rfl) ?_ | refine NilG.mk (fun _ => by kernel_rfl) ?_ | refine Chk.mk (by decide) ?_ | refine hS.ld rfl ?_ | refine hS.ldn rfl ?_ | (refine hS.st rfl rfl ?_; intro _ hS))
    refine Cl.mono (ReadCommand_spec (t := s ++ [x]) (by rw [List.length_append]; simp only [List.length_singleton]; omega)) ?_
    intro v w4 hP
    rw [hsm] at hP
    obtain ⟨rfl, hS'⟩ := hP
    have hS := hS.call0 hS'
    clear hS'
    repeat (first | refine SemW.run tblOk ?_ | refine IntG.nw (by omega) ?_ | refine IntG.nu8 (by omega) ?_ | refine IntG.nu32 (by omega) ?_ | refine IntG.nu64 (by omega) ?_ | refine IntG.wr' rfl ?_ | refine Chk.mk (by omega) ?_ | (refine BrG.id ?_; first | with_reducible refine BrG.t ?_ | with_reducible refine BrG.f ?_ | with_reducible refine BrG.notG ?_ | with_reducible refine BrG.nn ?_ | with_reducible refine BrG.ns ?_ | refine BrG.pos (by omega) ?_ | refine BrG.neg (by omega) ?_ | with_reducible refine BrG.pos rfl ?_ | refine BrG.pos (by assumption) ?_ | refine BrG.neg (by assumption) ?_ | refine BrG.pos (by decide) ?_ | refine BrG.neg (by decide) ?_) | refine Chk.mk (ptr_ok tblOk rfl rfl) ?_ | refine NilG.mk (fun _ => by kernel_rfl) ?_ | refine Chk.mk (by decide) ?_ | refine hS.ld rfl ?_ | refine hS.ldn rfl ?_ | (refine hS.st rfl rfl ?_; intro _ hS))
    refine hS.al ?_
    intro b4 w5 _ hS
    repeat (first | refine SemW.run tblOk ?_ | refine IntG.nw (by omega) ?_ | refine IntG.nu8 (by omega) ?_ | refine IntG.nu32 (by omega) ?_ | refine IntG.nu64 (by omega) ?_ | refine IntG.wr' rfl ?_ | refine Chk.mk (by omega) ?_ | (refine BrG.id ?_; first | with_reducible refine BrG.t ?_ | with_reducible refine BrG.f ?_ | with_reducible refine BrG.notG ?_ | with_reducible refine BrG.nn ?_ | with_reducible refine BrG.ns ?_ | refine BrG.pos (by omega) ?_ | refine BrG.neg (by omega) ?_ | with_reducible refine BrG.pos rfl ?_ | refine BrG.pos (by assumption) ?_ | refine BrG.neg (by assumption) ?_ | refine BrG.pos (by decide) ?_ | refine BrG.neg (by decide) ?_) | refine Chk.mk (ptr_ok tblOk rfl rfl) ?_ | refine NilG.mk (fun _ => by kernel_rfl) ?_ | refine Chk.mk (by decide) ?_ | refine hS.ld rfl ?_ | refine hS.ldn rfl ?_ | (refine hS.st rfl rfl ?_; intro _ hS))
    refine hS.al ?_
    intro q2 w2 _ hS
    repeat (first | refine SemW.run tblOk ?_ | refine IntG.nw (by omega) ?_ | refine IntG.nu8 (by omega) ?_ | refine IntG.nu32 (by omega) ?_ | refine IntG.nu64 (by omega) ?_ | refine IntG.wr' rfl ?_ | refine Chk.mk (by omega) ?_ | (refine BrG.id ?_; first | with_reducible refine BrG.t ?_ | with_reducible refine BrG.f ?_ | with_reducible refine BrG.notG ?_ | with_reducible refine BrG.nn ?_ | with_reducible refine BrG.ns ?_ | refine BrG.pos (by omega) ?_ | refine BrG.neg (by omega) ?_ | with_reducible refine BrG.pos rfl ?_ | refine BrG.pos (by assumption) ?_ | refine BrG.neg (by assumption) ?_ | refine BrG.pos (by decide) ?_ | refine BrG.neg (by decide) ?_) | refine Chk.mk (ptr_ok tblOk rfl rfl) ?_ | refine NilG.mk (fun _ => by kernel_rfl) ?_ | refine Chk.mk (by decide) ?_ | refine hS.ld rfl ?_ | refine hS.ldn rfl ?_ | (refine hS.st rfl rfl ?_; intro _ hS))
    refine toStr (T := []) tblOk rfl rfl rfl rfl rfl rfl (bs := [x]) rfl (fun w' hw' => by subst hw'; exact hS.arr (b := q2) (by simp)) ?_
    repeat (first | refine SemW.run tblOk ?_ | refine IntG.nw (by omega) ?_ | refine IntG.nu8 (by omega) ?_ | refine IntG.nu32 (by omega) ?_ | refine IntG.nu64 (by omega) ?_ | refine IntG.wr' rfl ?_ | refine Chk.mk (by omega) ?_ | (refine BrG.id ?_; first | with_reducible refine BrG.t ?_ | with_reducible refine BrG.f ?_ | with_reducible refine BrG.notG ?_ | with_reducible refine BrG.nn ?_ | with_reducible refine BrG.ns ?_ | refine BrG.pos (by omega) ?_ | refine BrG.neg (by omega) ?_ | with_reducible refine BrG.pos rfl ?_ | refine BrG.pos (by assumption) ?_ | refine BrG.neg (by assumption) ?_ | refine BrG.pos (by decide) ?_ | refine BrG.neg (by decide) ?_) | refine Chk.mk (ptr_ok tblOk rfl rfl) ?_ | refine NilG.mk (fun _ => by kernel_rfl) ?_ | refine Chk.mk (by decide) ?_ | refine hS.ld rfl ?_ | refine hS.ldn rfl ?_ | (refine hS.st rfl rfl ?_; intro _ hS))
    refine Chk.mk (by simp only [List.length_singleton]; omega) ?_
    repeat (first | refine SemW.run tblOk ?_ | refine IntG.nw (by omega) ?_ | refine IntG.nu8 (by omega) ?_ | refine IntG.nu32 (by omega) ?_ | refine IntG.nu64 (by omega) ?_ | refine IntG.wr' rfl ?_ | refine Chk.mk (by omega) ?_ | (refine BrG.id ?_; first | with_reducible refine BrG.t ?_ | with_reducible refine BrG.f ?_ | with_reducible refine BrG.notG ?_ | with_reducible refine BrG.nn ?_ | with_reducible refine BrG.ns ?_ | refine BrG.pos (by omega) ?_ | refine BrG.neg (by omega) ?_ | with_reducible refine BrG.pos rfl ?_ | refine BrG.pos (by assumption) ?_ | refine BrG.neg (by assumption) ?_ | refine BrG.pos (by decide) ?_ | refine BrG.neg (by decide) ?_) | refine Chk.mk (ptr_ok tblOk rfl rfl) ?_ | refine NilG.mk (fun _ => by kernel_rfl) ?_ | refine Chk.mk (by decide) ?_ | refine hS.ld rfl ?_ | refine hS.ldn rfl ?_ | (refine hS.st rfl rfl ?_; intro _ hS))
    refine Cl.mono (ReadReply_spec (t := t ++ [x]) (by rw [List.length_append]; simp only [List.length_singleton]; omega) (hE.keep hS (by simp) (by simp))) ?_
    intro v w6 hP
    rw [htm] at hP
    obtain ⟨rfl, hS'⟩ := hP
    have hS := hS.call0 hS'
    clear hS'
    repeat (first | refine SemW.run tblOk ?_ | refine IntG.nw (by omega) ?_ | refine IntG.nu8 (by omega) ?_ | refine IntG.nu32 (by omega) ?_ | refine IntG.nu64 (by omega) ?_ | refine IntG.wr' rfl ?_ | refine Chk.mk (by omega) ?_ | (refine BrG.id ?_; first | with_reducible refine BrG.t ?_ | with_reducible refine BrG.f ?_ | with_reducible refine BrG.notG ?_ | with_reducible refine BrG.nn ?_ | with_reducible refine BrG.ns ?_ | refine BrG.pos (by omega) ?_ | refine BrG.neg (by omega) ?_ | with_reducible refine BrG.pos rfl ?_ | refine BrG.pos (by assumption) ?_ | refine BrG.neg (by assumption) ?_ | refine BrG.pos (by decide) ?_ | refine BrG.neg (by decide) ?_) | refine Chk.mk (ptr_ok tblOk rfl rfl) ?_ | refine NilG.mk (fun _ => by kernel_rfl) ?_ | refine Chk.mk (by decide) ?_ | refine hS.ld rfl ?_ | refine hS.ldn rfl ?_ | (refine hS.st rfl rfl ?_; intro _ hS))
    refine hS.al ?_
    intro b5 w7 _ hS
    repeat (first | refine SemW.run tblOk ?_ | refine IntG.nw (by omega) ?_ | refine IntG.nu8 (by omega) ?_ | refine IntG.nu32 (by omega) ?_ | refine IntG.nu64 (by omega) ?_ | refine IntG.wr' rfl ?_ | refine Chk.mk (by omega) ?_ | (refine BrG.id ?_; first | with_reducible refine BrG.t ?_ | with_reducible refine BrG.f ?_ | with_reducible refine BrG.notG ?_ | with_reducible refine BrG.nn ?_ | with_reducible refine BrG.ns ?_ | refine BrG.pos (by omega) ?_ | refine BrG.neg (by omega) ?_ | with_reducible refine BrG.pos rfl ?_ | refine BrG.pos (by assumption) ?_ | refine BrG.neg (by assumption) ?_ | refine BrG.pos (by decide) ?_ | refine BrG.neg (by decide) ?_) | refine Chk.mk (ptr_ok tblOk rfl rfl) ?_ | refine NilG.mk (fun _ => by kernel_rfl) ?_ | refine Chk.mk (by decide) ?_ | refine hS.ld rfl ?_ | refine hS.ldn rfl ?_ | (refine hS.st rfl rfl ?_; intro _ hS))
    exact ⟨rfl, hS.nil⟩
theorem WireWhole_specN {w : World} {c : CmdM} {r : ReplyM} {a b : Option Addr} {ca cb : Nat} {n : Int} (hn : 0 ≤ n ∧ n ≤ 255) (hc : ArgC w c a ca) (hr : ArgR w r b cb) (hE : ErrVars w) :
    Cl Tryd.prog f_tarmaclaw23_WireWhole [cmdV c a ca, .agg ⟨replyC r b cb⟩, .int .u8 n] w fun v w' => v = .bool true ∧ St w [] [] w' := by
  have e : Value.int .u8 n = byteV (UInt8.ofNat n.toNat) := by
    unfold byteV
    rw [UInt8.toNat_ofNat_of_lt' (by show n.toNat < 256; omega)]
    rw [Int.toNat_of_nonneg hn.1]
  rw [e]
  exact WireWhole_spec hc hr hE
end Go.Proofs.YthpmmfapolcaiaaDoor
