/- Versions and edits that are handed in, opened. -/
import Derived.Test.YtkncpdehgcldbaaDoorRSl
import Derived.Test.YtkncpdehgcldbaaDoorManB
namespace Go.Proofs.YtkncpdehgcldbaaDoor
open Go Go.Eng Go.Proofs Go.Srt
open Go.ChangeShapes Go.WideShapes Go.ChangeAt Go.RowKit
theorem RSl.addr {β : Type} {sz : Nat} {R : CellR β} {W : World} {a : Option Addr} {n cap : Nat} {xs : List β} (h : RSl sz R W [.slice a n cap] xs) (hx : 0 < xs.length) : ∃ g off, a = some ⟨g, off, none⟩ := by
  obtain ⟨b, off, cs, h1, -⟩ := h.at hx
  exact ⟨b, off, h1⟩
theorem RSl.arrC {β : Type} {sz : Nat} {R : CellR β} {W : World} {a : Option Addr} {n cap : Nat} {xs : List β} {cv : β → List Value} (h : RSl sz R W [.slice a n cap] xs) (hR : ∀ cs x, R W cs x → cs = cv x) (hc : ∀ x, (cv x).length = sz) (h0 : 0 < sz) : Arr W [] a (xs.flatMap cv) := by
  intro j v hj
  have hjl : j < xs.length * sz := by
    have := (List.getElem?_eq_some_iff.1 hj).1
    rwa [flat_lenE hc] at this
  have hi : j / sz < xs.length := Nat.div_lt_of_lt_mul (by rw [Nat.mul_comm]; exact hjl)
  obtain ⟨b, off, cs, h1, h2, h3, h4⟩ := h.at hi
  have hcs := hR _ _ h4
  have hat := flat_atE hc xs [] (j / sz) hi
  rw [List.append_nil, ← hcs] at hat
  refine ⟨b, off, h1, by simp, ?_⟩
  have hr : j % sz < sz := Nat.mod_lt _ h0
  have hdm : j / sz * sz + j % sz = j := by rw [Nat.mul_comm]; exact Nat.div_add_mod j sz
  have hv : cs[j % sz]? = some v := by
    rw [← hat, List.getElem?_take, if_pos hr, List.getElem?_drop, hdm]; exact hj
  have := h3 _ _ hv
  rw [hdm] at this
  exact this
def RFile : CellR FileM := fun _ cs x => cs = fileC x ∧ i64b x.1 ∧ i64b x.2
theorem opens_file : Opens Tryd.prog T_api_File RFile (fun _ => 3) := by
  refine Opens.map (Opens.struct (sz := 2) Tryd.underlying28 (by kernel_rfl) (OpensFs.cons (s := 1) rfl (by kernel_rfl) (Opens.int Tryd.underlying3) (OpensFs.cons (s := 1) rfl (by kernel_rfl) (Opens.int Tryd.underlying3) OpensFs.nil))) (fun x => (x.1, x.2.1)) ?_ (fun x => by (try simp only); omega)
  intro W cs x h
  obtain ⟨e1, w1, h⟩ := pair_int h
  obtain ⟨e2, w2, h⟩ := pair_int h
  have h : ((cs.drop 1).drop 1) = [] := h
  rw [h] at e2; rw [e2] at e1
  exact ⟨e1, wf_i64b w1, wf_i64b w2⟩
def REdit : CellR EM := fun W cs e => ∃ a b ca cb, cs = editC a b ca cb e ∧ RSl 2 RFile W [.slice a e.add.length ca] e.add ∧ RSl 1 (RInt .i64) W [.slice b e.del.length cb] e.del ∧ i64b e.wal ∧ i64b e.next ∧ i64b e.seq
theorem sum_const {α : Type} (l : List α) (k : Nat) : (l.map fun _ => k).sum = k * l.length := by
  induction l with
  | nil => rfl
  | cons a l ih => simp only [List.map_cons, List.sum_cons, List.length_cons, ih, Nat.mul_add]; omega
theorem opens_edit : Opens Tryd.prog T_api_Edit REdit (fun e => 3 * e.add.length + e.del.length + 6) := by
  refine Opens.map (Opens.struct (sz := 5) Tryd.underlying36 (by kernel_rfl) (OpensFs.cons (s := 1) rfl (by kernel_rfl) (Opens.slice Tryd.underlying22 (show Tryd.prog.cellsOf T_api_File = 2 by kernel_rfl) (by decide) opens_file)
    (OpensFs.cons (s := 1) rfl (by kernel_rfl) (Opens.slice Tryd.underlying34 (show Tryd.prog.cellsOf T_int = 1 by kernel_rfl) (by decide) (Opens.int Tryd.underlying3))
    (OpensFs.cons (s := 1) rfl (by kernel_rfl) (Opens.int Tryd.underlying3) (OpensFs.cons (s := 1) rfl (by kernel_rfl) (Opens.int Tryd.underlying3) (OpensFs.cons (s := 1) rfl (by kernel_rfl) (Opens.int Tryd.underlying3) OpensFs.nil))))))
    (fun x => ⟨x.1, x.2.1, x.2.2.1, x.2.2.2.1, x.2.2.2.2.1⟩) ?_ (fun x => by simp only [sum_const]; omega)
  intro W cs x h
  obtain ⟨u, e1, h1, h⟩ := pair_sl h
  obtain ⟨v, e2, h2, h⟩ := pair_sl h
  obtain ⟨e3, w3, h⟩ := pair_int h
  obtain ⟨e4, w4, h⟩ := pair_int h
  obtain ⟨e5, w5, h⟩ := pair_int h
  have h : (((((cs.drop 1).drop 1).drop 1).drop 1).drop 1) = [] := h
  rw [h] at e5; rw [e5] at e4; rw [e4] at e3; rw [e3] at e2; rw [e2] at e1
  obtain ⟨a, ca, rfl, -, -, h1⟩ := h1.inv
  obtain ⟨b, cb, rfl, -, -, h2⟩ := h2.inv
  exact ⟨a, b, ca, cb, e1, h1, h2, wf_i64b w3, wf_i64b w4, wf_i64b w5⟩
theorem RSl.cap {β : Type} {sz : Nat} {R : CellR β} {W : World} {a : Option Addr} {n cap : Nat} {xs : List β} (h : RSl sz R W [.slice a n cap] xs) : xs.length ≤ cap := by
  obtain ⟨a', cap', h1, h2, -⟩ := h.ex
  have : cap = cap' := by simpa using (List.cons.inj h1).1 |> fun h => (Value.slice.inj h).2.2
  omega
theorem open_editAt {W : World} {cs : List Value} {e : EM} (h : REdit W cs e) (hlen : e.add.length + e.del.length ≤ 16777216) : ∃ a b ca cb, cs = editC a b ca cb e ∧ EditAt W a b ca cb e := by
  obtain ⟨a, b, ca, cb, e1, h1, h2, w3, w4, w5⟩ := h
  have hd : Arr W [] b (e.del.flatMap fun n => [intV n]) := RSl.arrC h2 (fun cs x h => h.1) (fun _ => rfl) (by decide)
  have hd' : (e.del.flatMap fun n => [intV n]) = e.del.map intV := by
    induction e.del with
    | nil => rfl
    | cons x l ih => rw [List.flatMap_cons, List.map_cons, ih]; rfl
  rw [hd'] at hd
  exact ⟨a, b, ca, cb, e1, ⟨⟨RSl.arrC h1 (fun cs x h => h.1) (fun _ => rfl) (by decide), h1.cap⟩, hd, h2.cap, hlen, ⟨w3.1, w3.2, w4.1, w4.2, w5.1, w5.2⟩⟩⟩
def RVers : CellR VM := fun W cs v => ∃ a ca, cs = versC a ca v ∧ RSl 2 RFile W [.slice a v.files.length ca] v.files ∧ i64b v.wal ∧ i64b v.next ∧ i64b v.seq
theorem opens_vers : Opens Tryd.prog T_api_Version RVers (fun v => 3 * v.files.length + 5) := by
  refine Opens.map (Opens.struct (sz := 4) Tryd.underlying24 (by kernel_rfl) (OpensFs.cons (s := 1) rfl (by kernel_rfl) (Opens.slice Tryd.underlying22 (show Tryd.prog.cellsOf T_api_File = 2 by kernel_rfl) (by decide) opens_file)
    (OpensFs.cons (s := 1) rfl (by kernel_rfl) (Opens.int Tryd.underlying3) (OpensFs.cons (s := 1) rfl (by kernel_rfl) (Opens.int Tryd.underlying3) (OpensFs.cons (s := 1) rfl (by kernel_rfl) (Opens.int Tryd.underlying3) OpensFs.nil)))))
    (fun x => ⟨x.1, x.2.1, x.2.2.1, x.2.2.2.1⟩) ?_ (fun x => by simp only [sum_const]; omega)
  intro W cs x h
  obtain ⟨u, e1, h1, h⟩ := pair_sl h
  obtain ⟨e3, w3, h⟩ := pair_int h
  obtain ⟨e4, w4, h⟩ := pair_int h
  obtain ⟨e5, w5, h⟩ := pair_int h
  have h : ((((cs.drop 1).drop 1).drop 1).drop 1) = [] := h
  rw [h] at e5; rw [e5] at e4; rw [e4] at e3; rw [e3] at e1
  obtain ⟨a, ca, rfl, -, -, h1⟩ := h1.inv
  exact ⟨a, ca, e1, h1, wf_i64b w3, wf_i64b w4, wf_i64b w5⟩
/-- A version that is handed in. -/
theorem open_vers {H : Type} {enc : TypeId × Value → H} {W : World} {v : Value} {d : DataW H} {p : List MemPlace} (hd : DataW.Trod enc Tryd.prog W 0 (fun _ => true) true T_api_Version v d p) :
    ∃ (m : VM) (a : Option Addr) (ca : Nat), v = .agg ⟨versC a ca m⟩ ∧ VersAt W a ca m ∧ 3 * m.files.length + 5 ≤ Rows.uptoBulk d := by
  obtain ⟨m, ⟨a, ca, hcs, h1, w3, w4, w5⟩, hb⟩ := Trod.out hd opens_vers
  refine ⟨m, a, ca, ?_, ⟨⟨RSl.arrC h1 (fun cs x h => h.1) (fun _ => rfl) (by decide), h1.cap⟩, ⟨w3.1, w3.2, w4.1, w4.2, w5.1, w5.2⟩⟩, hb⟩
  cases v with
  | agg cs => cases cs; simp only [Value.cells] at hcs; rw [hcs]
  | _ => simp [Value.cells, versC] at hcs
theorem open_edit {H : Type} {enc : TypeId × Value → H} {W : World} {v : Value} {d : DataW H} {p : List MemPlace} (hd : DataW.Trod enc Tryd.prog W 0 (fun _ => true) true T_api_Edit v d p) (hu : Rows.uptoBulk d ≤ 1048576) :
    ∃ (m : EM) (a b : Option Addr) (ca cb : Nat), v = .agg ⟨editC a b ca cb m⟩ ∧ EditAt W a b ca cb m ∧ 3 * m.add.length + m.del.length + 6 ≤ Rows.uptoBulk d := by
  obtain ⟨m, hR, hb⟩ := Trod.out hd opens_edit
  obtain ⟨a, b, ca, cb, hcs, hE⟩ := open_editAt hR (by omega)
  refine ⟨m, a, b, ca, cb, ?_, hE, hb⟩
  cases v with
  | agg cs => cases cs; simp only [Value.cells] at hcs; rw [hcs]
  | _ => simp [Value.cells, editC] at hcs
/-- Edits that are handed in. -/
def REditA : CellR EM := fun W cs e => ∃ a b ca cb, cs = editC a b ca cb e ∧ EditAt W a b ca cb e
theorem open_edits {H : Type} {enc : TypeId × Value → H} {W : World} {xa : Option Addr} {xl xc : Nat} {d : DataW H} {p : List MemPlace} (hd : DataW.Trod enc Tryd.prog W 0 (fun _ => true) true T_Sl_api_Edit (.slice xa xl xc) d p) (hu : Rows.uptoBulk d ≤ 1048576) :
    ∃ (es : List EM) (a : Option Addr) (ca : Nat), Value.slice xa xl xc = .slice a es.length ca ∧ RSl 5 REditA W [.slice a es.length ca] es ∧ (es.map fun e => 3 * e.add.length + e.del.length + 6).sum + 1 ≤ Rows.uptoBulk d := by
  obtain ⟨es, h1, hb⟩ := Trod.out hd (Opens.slice Tryd.underlying25 (show Tryd.prog.cellsOf T_api_Edit = 5 by kernel_rfl) (by decide) opens_edit)
  have hle : ∀ (l : List EM) (e : EM), e ∈ l → 3 * e.add.length + e.del.length + 6 ≤ (l.map fun e => 3 * e.add.length + e.del.length + 6).sum := by
    intro l
    induction l with
    | nil => intro e h; cases h
    | cons x l ih =>
      intro e h
      rw [List.map_cons, List.sum_cons]
      rcases List.mem_cons.1 h with rfl | h
      · omega
      · have := ih e h; omega
  have h1 : RSl 5 REdit W [.slice xa xl xc] es := h1
  obtain ⟨a, ca, he, -, -, h1⟩ := h1.inv
  refine ⟨es, a, ca, he, ?_, hb⟩
  · obtain ⟨a', cap', e1, e2, e3, e4⟩ := h1.ex
    refine ⟨a', cap', e1, e2, e3, fun j hj => ?_⟩
    obtain ⟨b, off, cs', f1, f2, f3, f4⟩ := e4 j hj
    have := hle es _ (List.getElem_mem hj)
    exact ⟨b, off, cs', f1, f2, f3, open_editAt f4 (by omega)⟩
end Go.Proofs.YtkncpdehgcldbaaDoor
