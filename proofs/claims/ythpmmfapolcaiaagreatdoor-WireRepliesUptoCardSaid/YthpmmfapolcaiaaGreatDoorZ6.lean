/- Texts of this claim, one behind the other. -/
import Derived.Test.YthpmmfapolcaiaaGreatDoorZ4
import Derived.Test.YthpmmfapolcaiaaGreatDoorZ5
import Derived.Test.YthpmmfapolcaiaaGreatDoorZ2
import Derived.Test.YthpmmfapolcaiaaGreatDoorZ3
/- Package wire: Reply. -/
namespace Go.Proofs.YthpmmfapolcaiaaGreatDoor
open Go Go.Eng Go.Proofs
/-- A reply that is handed in. -/
structure ArgR (w : World) (r : ReplyM) (a : Option Addr) (cap : Nat) : Prop where
  ids : Arr w [] a (r.ids.map intV)
  ok : r.ok
  ni : r.ids.length ≤ 16777216
  nt : r.text.length ≤ 16777216
theorem ArgR.keep {w0 w : World} {H : Heap} (hS : St w0 [] H w) {r : ReplyM} {a : Option Addr} {cap : Nat} (h : ArgR w0 r a cap) : ArgR w r a cap := ⟨hS.arrOld h.ids, h.ok, h.ni, h.nt⟩
theorem intsC_one (l : List Int) : (l.map intV).all Value.oneCell' = true := by
  induction l with
  | nil => rfl
  | cons p ps ih => rw [List.map_cons, List.all_cons, ih]; rfl
set_option maxHeartbeats 2000000 in
theorem cloneInt_spec {w : World} {a : Option Addr} {cap : Nat} {l : List Int} (ha : Arr w [] a (l.map intV)) (hlen : l.length ≤ 16777216) :
    Cl Tryz.prog f_slices_Clone_int_int [.slice a l.length cap] w fun v w' => ∃ a' c' L, v = .slice a' l.length c' ∧ Vec T_int 1 a' l.length c' (l.map intV) L ∧ St w [] L w' := by
  have hS := St.start w
  refine en_slices_Clone_int_int rfl ?_
  rcases a with _ | p
  · have hl : l = [] := by
      cases l with
      | nil => rfl
      | cons x l => obtain ⟨g, off, h, -⟩ := ha.get (j := 0) (by simp); cases h
    subst hl
    repeat (first | refine SemW.run tblOk ?_ | refine jA (by omega) ?_ | refine jB (by omega) ?_ | refine jC (by omega) ?_ | refine jD (by omega) ?_ | refine jE rfl ?_ | refine jF (by omega) ?_ | (refine jG ?_; first | with_reducible (first | refine jH ?_ | refine jI ?_ | refine jJ ?_ | refine jK ?_ | refine jL ?_) | refine jM (by omega) ?_ | refine jN (by omega) ?_ | with_reducible refine jM rfl ?_ | refine jM (by assumption) ?_ | refine jN (by assumption) ?_ | refine jM (by decide) ?_ | refine jN (by decide) ?_) | refine jF (ptr_ok tblOk rfl rfl) ?_ | refine jO (fun _ => by kernel_rfl) ?_ | refine jF (by decide) ?_)
    refine eqlSlNil tblOk rfl rfl ?_
    repeat (first | refine SemW.run tblOk ?_ | refine jA (by omega) ?_ | refine jB (by omega) ?_ | refine jC (by omega) ?_ | refine jD (by omega) ?_ | refine jE rfl ?_ | refine jF (by omega) ?_ | (refine jG ?_; first | with_reducible (first | refine jH ?_ | refine jI ?_ | refine jJ ?_ | refine jK ?_ | refine jL ?_) | refine jM (by omega) ?_ | refine jN (by omega) ?_ | with_reducible refine jM rfl ?_ | refine jM (by assumption) ?_ | refine jN (by assumption) ?_ | refine jM (by decide) ?_ | refine jN (by decide) ?_) | refine jF (ptr_ok tblOk rfl rfl) ?_ | refine jO (fun _ => by kernel_rfl) ?_ | refine jF (by decide) ?_)
    exact ⟨_, _, [], rfl, Vec.nil, hS⟩
  · repeat (first | refine SemW.run tblOk ?_ | refine jA (by omega) ?_ | refine jB (by omega) ?_ | refine jC (by omega) ?_ | refine jD (by omega) ?_ | refine jE rfl ?_ | refine jF (by omega) ?_ | (refine jG ?_; first | with_reducible (first | refine jH ?_ | refine jI ?_ | refine jJ ?_ | refine jK ?_ | refine jL ?_) | refine jM (by omega) ?_ | refine jN (by omega) ?_ | with_reducible refine jM rfl ?_ | refine jM (by assumption) ?_ | refine jN (by assumption) ?_ | refine jM (by decide) ?_ | refine jN (by decide) ?_) | refine jF (ptr_ok tblOk rfl rfl) ?_ | refine jO (fun _ => by kernel_rfl) ?_ | refine jF (by decide) ?_)
    refine eqlSlNil tblOk rfl rfl ?_
    repeat (first | refine SemW.run tblOk ?_ | refine jA (by omega) ?_ | refine jB (by omega) ?_ | refine jC (by omega) ?_ | refine jD (by omega) ?_ | refine jE rfl ?_ | refine jF (by omega) ?_ | (refine jG ?_; first | with_reducible (first | refine jH ?_ | refine jI ?_ | refine jJ ?_ | refine jK ?_ | refine jL ?_) | refine jM (by omega) ?_ | refine jN (by omega) ?_ | with_reducible refine jM rfl ?_ | refine jM (by assumption) ?_ | refine jN (by assumption) ?_ | refine jM (by decide) ?_ | refine jN (by decide) ?_) | refine jF (ptr_ok tblOk rfl rfl) ?_ | refine jO (fun _ => by kernel_rfl) ?_ | refine jF (by decide) ?_)
    refine hS.al ?_
    intro r w1 _ hS
    have hv : Vec T_int 1 (some ⟨r, 0, none⟩) 0 0 [] [(r, .cells ⟨[]⟩ T_int (0, 0))] := Vec.row r 0 0 [] [] rfl rfl (Nat.le_refl _)
    repeat (first | refine SemW.run tblOk ?_ | refine jA (by omega) ?_ | refine jB (by omega) ?_ | refine jC (by omega) ?_ | refine jD (by omega) ?_ | refine jE rfl ?_ | refine jF (by omega) ?_ | (refine jG ?_; first | with_reducible (first | refine jH ?_ | refine jI ?_ | refine jJ ?_ | refine jK ?_ | refine jL ?_) | refine jM (by omega) ?_ | refine jN (by omega) ?_ | with_reducible refine jM rfl ?_ | refine jM (by assumption) ?_ | refine jN (by assumption) ?_ | refine jM (by decide) ?_ | refine jN (by decide) ?_) | refine jF (ptr_ok tblOk rfl rfl) ?_ | refine jO (fun _ => by kernel_rfl) ?_ | refine jF (by decide) ?_)
    refine St.app (sz := 1) (m := l.length) tblOk rfl rfl rfl rfl hS hv (news := l.map intV) (by simp) (hS.arrOld ha) (intsC_one l) (by show (_ + _) * 8 ≤ _; omega) (by omega) ?_
    intro a1 c1 L1 w2 hv hS
    rw [List.nil_append, Nat.zero_add] at hv
    rw [Nat.zero_add]
    repeat (first | refine SemW.run tblOk ?_ | refine jA (by omega) ?_ | refine jB (by omega) ?_ | refine jC (by omega) ?_ | refine jD (by omega) ?_ | refine jE rfl ?_ | refine jF (by omega) ?_ | (refine jG ?_; first | with_reducible (first | refine jH ?_ | refine jI ?_ | refine jJ ?_ | refine jK ?_ | refine jL ?_) | refine jM (by omega) ?_ | refine jN (by omega) ?_ | with_reducible refine jM rfl ?_ | refine jM (by assumption) ?_ | refine jN (by assumption) ?_ | refine jM (by decide) ?_ | refine jN (by decide) ?_) | refine jF (ptr_ok tblOk rfl rfl) ?_ | refine jO (fun _ => by kernel_rfl) ?_ | refine jF (by decide) ?_)
    exact ⟨a1, c1, L1, rfl, hv, hS⟩
def repOut (r : ReplyM) : List Value := if seatGood r.pax.num r.pax.c = true ∧ (replyB r).length ≤ 65536 then [Str (frameB (replyB r)), .int .i64 0] else [Str [], .int .i64 34]
theorem replyB_len {r : ReplyM} (hok : r.ok) (hni : r.ids.length ≤ 16777216) (hnt : r.text.length ≤ 16777216) : (replyB r).length ≤ 1099511627776 := by
  have hp := hok.pax
  have hsl := seatB_len r.pax.num r.pax.c
  have hi1 := ints_len [r.code] (all1 hok.code).2
  have hi2 := ints_len r.ids hok.ids
  have hi3 := ints_len [r.n0, r.n1, r.n2, r.n3] (all4 hok.n0 hok.n1 hok.n2 hok.n3).2
  have hi4 := ints_len (paxI r.pax) (all7 hp.id hp.flight hp.cab hp.cls hp.status hp.tick hp.pass).2
  have hn1 := numB_len10 r.ids.length (by omega)
  have hn2 := numB_len10 (marksN [r.over]) (by have h3' : marksN [r.over] < 2 := marksN_lt [r.over]; omega)
  have hn3 := numB_len10 (marksN [r.pax.fit, r.pax.infant, r.pax.vol, r.pax.stb]) (by have := marks4_lt r.pax.fit r.pax.infant r.pax.vol r.pax.stb; omega)
  have hn4 := numB_len10 (seatB r.pax.num r.pax.c).length (by omega)
  have hn5 := numB_len10 r.text.length (by omega)
  have hpi : (paxI r.pax).length = 7 := rfl
  simp only [List.length_cons, List.length_nil] at hi1 hi3
  unfold replyB textB
  simp only [List.length_append]; omega
set_option maxRecDepth 4000 in
set_option maxHeartbeats 8000000 in
theorem Reply_spec {w : World} {r : ReplyM} {a : Option Addr} {cap : Nat} (hA : ArgR w r a cap) : Cl Tryz.prog f_wire_Reply [.agg ⟨replyC r a cap⟩] w fun v w' => v = .tuple ⟨repOut r⟩ ∧ St w [] [] w' := by
  have hS := St.start w
  have hok := hA.ok
  have hbl := replyB_len hok hA.ni hA.nt
  have hsl := seatB_len r.pax.num r.pax.c
  unfold repOut
  refine en_wire_Reply rfl ?_
  repeat (first | refine SemW.run tblOk ?_ | refine jA (by omega) ?_ | refine jB (by omega) ?_ | refine jC (by omega) ?_ | refine jD (by omega) ?_ | refine jE rfl ?_ | refine jF (by omega) ?_ | (refine jG ?_; first | with_reducible (first | refine jH ?_ | refine jI ?_ | refine jJ ?_ | refine jK ?_ | refine jL ?_) | refine jM (by omega) ?_ | refine jN (by omega) ?_ | with_reducible refine jM rfl ?_ | refine jM (by assumption) ?_ | refine jN (by assumption) ?_ | refine jM (by decide) ?_ | refine jN (by decide) ?_) | refine jF (ptr_ok tblOk rfl rfl) ?_ | refine jO (fun _ => by kernel_rfl) ?_ | refine jF (by decide) ?_)
  refine hS.al ?_
  intro b1 w1 _ hS
  repeat (first | refine SemW.run tblOk ?_ | refine jA (by omega) ?_ | refine jB (by omega) ?_ | refine jC (by omega) ?_ | refine jD (by omega) ?_ | refine jE rfl ?_ | refine jF (by omega) ?_ | (refine jG ?_; first | with_reducible (first | refine jH ?_ | refine jI ?_ | refine jJ ?_ | refine jK ?_ | refine jL ?_) | refine jM (by omega) ?_ | refine jN (by omega) ?_ | with_reducible refine jM rfl ?_ | refine jM (by assumption) ?_ | refine jN (by assumption) ?_ | refine jM (by decide) ?_ | refine jN (by decide) ?_) | refine jF (ptr_ok tblOk rfl rfl) ?_ | refine jO (fun _ => by kernel_rfl) ?_ | refine jF (by decide) ?_ | refine hS.ld rfl ?_ | refine hS.ldn rfl ?_ | (refine hS.st rfl rfl ?_; intro _ hS))
  refine hS.al ?_
  intro sb w2 _ hS
  repeat (first | refine SemW.run tblOk ?_ | refine jA (by omega) ?_ | refine jB (by omega) ?_ | refine jC (by omega) ?_ | refine jD (by omega) ?_ | refine jE rfl ?_ | refine jF (by omega) ?_ | (refine jG ?_; first | with_reducible (first | refine jH ?_ | refine jI ?_ | refine jJ ?_ | refine jK ?_ | refine jL ?_) | refine jM (by omega) ?_ | refine jN (by omega) ?_ | with_reducible refine jM rfl ?_ | refine jM (by assumption) ?_ | refine jN (by assumption) ?_ | refine jM (by decide) ?_ | refine jN (by decide) ?_) | refine jF (ptr_ok tblOk rfl rfl) ?_ | refine jO (fun _ => by kernel_rfl) ?_ | refine jF (by decide) ?_ | refine hS.ld rfl ?_ | refine hS.ldn rfl ?_ | (refine hS.st rfl rfl ?_; intro _ hS))
  refine neqAgg (n := 2) (by omega) (by kernel_rfl) (eqSeat r.pax.num r.pax.c 0 0) ?_
  by_cases hz : r.pax.num = 0 ∧ r.pax.c = 0
  · have hz2 : seatB r.pax.num r.pax.c = [] := if_pos hz
    have hsg : seatGood r.pax.num r.pax.c = true := by unfold seatGood; rw [hz2]; rfl
    have hne : ¬ seatB r.pax.num r.pax.c = [45] := by rw [hz2]; decide
    rw [decide_eq_true hz, Bool.not_true]
    have hS := (show St w [] [(sb, .cells ⟨[Str []]⟩ T_string (0, 0)), (b1, repO r a cap)] _ from hS)
    rw [← hz2] at hS
    repeat (first | refine SemW.run tblOk ?_ | refine jA (by omega) ?_ | refine jB (by omega) ?_ | refine jC (by omega) ?_ | refine jD (by omega) ?_ | refine jE rfl ?_ | refine jF (by omega) ?_ | (refine jG ?_; first | with_reducible (first | refine jH ?_ | refine jI ?_ | refine jJ ?_ | refine jK ?_ | refine jL ?_) | refine jM (by omega) ?_ | refine jN (by omega) ?_ | with_reducible refine jM rfl ?_ | refine jM (by assumption) ?_ | refine jN (by assumption) ?_ | refine jM (by decide) ?_ | refine jN (by decide) ?_) | refine jF (ptr_ok tblOk rfl rfl) ?_ | refine jO (fun _ => by kernel_rfl) ?_ | refine jF (by decide) ?_ | refine hS.ld rfl ?_ | refine hS.ldn rfl ?_ | (refine hS.st rfl rfl ?_; intro _ hS))
    refine Cl.mono PNew_spec ?_
    rintro _ w3 ⟨pb, L, rfl, hW, hS'⟩
    have hS := hS.callNew hS'
    repeat (first | refine SemW.run tblOk ?_ | refine jA (by omega) ?_ | refine jB (by omega) ?_ | refine jC (by omega) ?_ | refine jD (by omega) ?_ | refine jE rfl ?_ | refine jF (by omega) ?_ | (refine jG ?_; first | with_reducible (first | refine jH ?_ | refine jI ?_ | refine jJ ?_ | refine jK ?_ | refine jL ?_) | refine jM (by omega) ?_ | refine jN (by omega) ?_ | with_reducible refine jM rfl ?_ | refine jM (by assumption) ?_ | refine jN (by assumption) ?_ | refine jM (by decide) ?_ | refine jN (by decide) ?_) | refine jF (ptr_ok tblOk rfl rfl) ?_ | refine jO (fun _ => by kernel_rfl) ?_ | refine jF (by decide) ?_ | refine hS.ld rfl ?_ | refine hS.ldn rfl ?_ | (refine hS.st rfl rfl ?_; intro _ hS))
    refine hS.al ?_
    intro b5 w4 _ hS
    repeat (first | refine SemW.run tblOk ?_ | refine jA (by omega) ?_ | refine jB (by omega) ?_ | refine jC (by omega) ?_ | refine jD (by omega) ?_ | refine jE rfl ?_ | refine jF (by omega) ?_ | (refine jG ?_; first | with_reducible (first | refine jH ?_ | refine jI ?_ | refine jJ ?_ | refine jK ?_ | refine jL ?_) | refine jM (by omega) ?_ | refine jN (by omega) ?_ | with_reducible refine jM rfl ?_ | refine jM (by assumption) ?_ | refine jN (by assumption) ?_ | refine jM (by decide) ?_ | refine jN (by decide) ?_) | refine jF (ptr_ok tblOk rfl rfl) ?_ | refine jO (fun _ => by kernel_rfl) ?_ | refine jF (by decide) ?_ | refine hS.ld rfl ?_ | refine hS.ldn rfl ?_ | (refine hS.st rfl rfl ?_; intro _ hS))
    refine hS.al ?_
    intro b6 w5 _ hS
    repeat (first | refine SemW.run tblOk ?_ | refine jA (by omega) ?_ | refine jB (by omega) ?_ | refine jC (by omega) ?_ | refine jD (by omega) ?_ | refine jE rfl ?_ | refine jF (by omega) ?_ | (refine jG ?_; first | with_reducible (first | refine jH ?_ | refine jI ?_ | refine jJ ?_ | refine jK ?_ | refine jL ?_) | refine jM (by omega) ?_ | refine jN (by omega) ?_ | with_reducible refine jM rfl ?_ | refine jM (by assumption) ?_ | refine jN (by assumption) ?_ | refine jM (by decide) ?_ | refine jN (by decide) ?_) | refine jF (ptr_ok tblOk rfl rfl) ?_ | refine jO (fun _ => by kernel_rfl) ?_ | refine jF (by decide) ?_ | refine hS.ld rfl ?_ | refine hS.ldn rfl ?_ | (refine hS.st rfl rfl ?_; intro _ hS))
    refine Cl.mono (cloneInt_spec (hS.arrOld hA.ids) hA.ni) ?_
    rintro _ w6 ⟨a', c', Lr, rfl, hv, hS'⟩
    have hS := hS.callNew hS'
    repeat (first | refine SemW.run tblOk ?_ | refine jA (by omega) ?_ | refine jB (by omega) ?_ | refine jC (by omega) ?_ | refine jD (by omega) ?_ | refine jE rfl ?_ | refine jF (by omega) ?_ | (refine jG ?_; first | with_reducible (first | refine jH ?_ | refine jI ?_ | refine jJ ?_ | refine jK ?_ | refine jL ?_) | refine jM (by omega) ?_ | refine jN (by omega) ?_ | with_reducible refine jM rfl ?_ | refine jM (by assumption) ?_ | refine jN (by assumption) ?_ | refine jM (by decide) ?_ | refine jN (by decide) ?_) | refine jF (ptr_ok tblOk rfl rfl) ?_ | refine jO (fun _ => by kernel_rfl) ?_ | refine jF (by decide) ?_ | refine hS.ld rfl ?_ | refine hS.ldn rfl ?_ | (refine hS.st rfl rfl ?_; intro _ hS))
    have hS : St w [] (Lr ++ ((b6, repO r a' c') :: (b5, .cells ⟨[ptr pb]⟩ T_wire_writer (0, 0)) :: (L ++ [(sb, .cells ⟨[Str (seatB r.pax.num r.pax.c)]⟩ T_string (0, 0)), (b1, repO r a cap)]))) _ := hS
    have hS : St w [] (Lr ++ ((b5, .cells ⟨[ptr pb]⟩ T_wire_writer (0, 0)) :: (((b6, repO r a' c') :: L) ++ [(sb, .cells ⟨[Str (seatB r.pax.num r.pax.c)]⟩ T_string (0, 0)), (b1, repO r a cap)]))) _ := hS.perm (List.Perm.append_left Lr (List.Perm.swap _ _ _))
    have hsbn : sb ∉ b6 :: keys L := by
      have h1 := hS.sub (((List.Sublist.append_left (List.Sublist.cons_cons _ (List.nil_sublist _)) _).trans (List.sublist_cons_self _ _)).trans (List.sublist_append_right _ _) : (((b6, repO r a' c') :: L) ++ [(sb, Obj.cells ⟨[Str (seatB r.pax.num r.pax.c)]⟩ T_string (0, 0))]).Sublist _)
      have h2 : St w [] ((sb, Obj.cells ⟨[Str (seatB r.pax.num r.pax.c)]⟩ T_string (0, 0)) :: ((b6, repO r a' c') :: L)) _ := h1.perm List.perm_append_comm
      exact nodup_chunk (L := (b6, repO r a' c') :: L) h2
    have hrn : ∀ b ∈ keys Lr, b ∉ b6 :: keys L := not_in (B := (b6, repO r a' c') :: L) (hS.sub (List.Sublist.append_left (List.sublist_cons_self _ _) Lr))
    refine Cl.mono (reply_wr (r := r) (a := a') (cap := c') hW (hS.part (L := (b6, repO r a' c') :: L)) ⟨hsbn, hS.cell (b := sb) rfl⟩ (hv.arr hS hrn) hok hA.ni hA.nt) ?_
    rintro _ w7 ⟨L2, hW, hS'⟩
    have hS := hS.call (L := (b6, repO r a' c') :: L) hS'
    have hS : St w [] (Lr ++ ((b5, .cells ⟨[ptr pb]⟩ T_wire_writer (0, 0)) :: (b6, repO r a' c') :: (L2 ++ [(sb, .cells ⟨[Str (seatB r.pax.num r.pax.c)]⟩ T_string (0, 0)), (b1, repO r a cap)]))) _ := hS
    repeat (first | refine SemW.run tblOk ?_ | refine jA (by omega) ?_ | refine jB (by omega) ?_ | refine jC (by omega) ?_ | refine jD (by omega) ?_ | refine jE rfl ?_ | refine jF (by omega) ?_ | (refine jG ?_; first | with_reducible (first | refine jH ?_ | refine jI ?_ | refine jJ ?_ | refine jK ?_ | refine jL ?_) | refine jM (by omega) ?_ | refine jN (by omega) ?_ | with_reducible refine jM rfl ?_ | refine jM (by assumption) ?_ | refine jN (by assumption) ?_ | refine jM (by decide) ?_ | refine jN (by decide) ?_) | refine jF (ptr_ok tblOk rfl rfl) ?_ | refine jO (fun _ => by kernel_rfl) ?_ | refine jF (by decide) ?_ | refine hS.ld rfl ?_ | refine hS.ldn rfl ?_ | (refine hS.st rfl rfl ?_; intro _ hS))
    refine Cl.mono (wseal_spec hW (hS.part (L := L2)) (by omega)) ?_
    rintro _ w8 ⟨rfl, hS'⟩
    have hS := hS.call0 hS'
    by_cases hl : (replyB r).length ≤ 65536
    · rw [if_pos hl, if_pos ⟨hsg, hl⟩]
      repeat (first | refine SemW.run tblOk ?_ | refine jA (by omega) ?_ | refine jB (by omega) ?_ | refine jC (by omega) ?_ | refine jD (by omega) ?_ | refine jE rfl ?_ | refine jF (by omega) ?_ | (refine jG ?_; first | with_reducible (first | refine jH ?_ | refine jI ?_ | refine jJ ?_ | refine jK ?_ | refine jL ?_) | refine jM (by omega) ?_ | refine jN (by omega) ?_ | with_reducible refine jM rfl ?_ | refine jM (by assumption) ?_ | refine jN (by assumption) ?_ | refine jM (by decide) ?_ | refine jN (by decide) ?_) | refine jF (ptr_ok tblOk rfl rfl) ?_ | refine jO (fun _ => by kernel_rfl) ?_ | refine jF (by decide) ?_ | refine hS.ld rfl ?_ | refine hS.ldn rfl ?_ | (refine hS.st rfl rfl ?_; intro _ hS))
      exact ⟨rfl, hS.nil⟩
    · rw [if_neg hl, if_neg (fun h => hl h.2)]
      repeat (first | refine SemW.run tblOk ?_ | refine jA (by omega) ?_ | refine jB (by omega) ?_ | refine jC (by omega) ?_ | refine jD (by omega) ?_ | refine jE rfl ?_ | refine jF (by omega) ?_ | (refine jG ?_; first | with_reducible (first | refine jH ?_ | refine jI ?_ | refine jJ ?_ | refine jK ?_ | refine jL ?_) | refine jM (by omega) ?_ | refine jN (by omega) ?_ | with_reducible refine jM rfl ?_ | refine jM (by assumption) ?_ | refine jN (by assumption) ?_ | refine jM (by decide) ?_ | refine jN (by decide) ?_) | refine jF (ptr_ok tblOk rfl rfl) ?_ | refine jO (fun _ => by kernel_rfl) ?_ | refine jF (by decide) ?_ | refine hS.ld rfl ?_ | refine hS.ldn rfl ?_ | (refine hS.st rfl rfl ?_; intro _ hS))
      exact ⟨rfl, hS.nil⟩
  · have hz2 : seatB r.pax.num r.pax.c = labelB r.pax.num r.pax.c := if_neg hz
    rw [decide_eq_false hz, Bool.not_false]
    repeat (first | refine SemW.run tblOk ?_ | refine jA (by omega) ?_ | refine jB (by omega) ?_ | refine jC (by omega) ?_ | refine jD (by omega) ?_ | refine jE rfl ?_ | refine jF (by omega) ?_ | (refine jG ?_; first | with_reducible (first | refine jH ?_ | refine jI ?_ | refine jJ ?_ | refine jK ?_ | refine jL ?_) | refine jM (by omega) ?_ | refine jN (by omega) ?_ | with_reducible refine jM rfl ?_ | refine jM (by assumption) ?_ | refine jN (by assumption) ?_ | refine jM (by decide) ?_ | refine jN (by decide) ?_) | refine jF (ptr_ok tblOk rfl rfl) ?_ | refine jO (fun _ => by kernel_rfl) ?_ | refine jF (by decide) ?_ | refine hS.ld rfl ?_ | refine hS.ldn rfl ?_ | (refine hS.st rfl rfl ?_; intro _ hS))
    refine Cl.mono (Label_spec r.pax.num r.pax.c hok.pax.c) ?_
    rintro _ w3 ⟨rfl, hS'⟩
    have hS := hS.call0 hS'
    rw [← hz2]
    cases hsg : seatGood r.pax.num r.pax.c with
    | true =>
      have hne : ¬ seatB r.pax.num r.pax.c = [45] := of_decide_eq_true hsg
      have hsg : true = true := rfl
      repeat (first | refine SemW.run tblOk ?_ | refine jA (by omega) ?_ | refine jB (by omega) ?_ | refine jC (by omega) ?_ | refine jD (by omega) ?_ | refine jE rfl ?_ | refine jF (by omega) ?_ | (refine jG ?_; first | with_reducible (first | refine jH ?_ | refine jI ?_ | refine jJ ?_ | refine jK ?_ | refine jL ?_) | refine jM (by omega) ?_ | refine jN (by omega) ?_ | with_reducible refine jM rfl ?_ | refine jM (by assumption) ?_ | refine jN (by assumption) ?_ | refine jM (by decide) ?_ | refine jN (by decide) ?_) | refine jF (ptr_ok tblOk rfl rfl) ?_ | refine jO (fun _ => by kernel_rfl) ?_ | refine jF (by decide) ?_ | refine hS.ld rfl ?_ | refine hS.ldn rfl ?_ | (refine hS.st rfl rfl ?_; intro _ hS))
      refine Cl.mono PNew_spec ?_
      rintro _ w3 ⟨pb, L, rfl, hW, hS'⟩
      have hS := hS.callNew hS'
      repeat (first | refine SemW.run tblOk ?_ | refine jA (by omega) ?_ | refine jB (by omega) ?_ | refine jC (by omega) ?_ | refine jD (by omega) ?_ | refine jE rfl ?_ | refine jF (by omega) ?_ | (refine jG ?_; first | with_reducible (first | refine jH ?_ | refine jI ?_ | refine jJ ?_ | refine jK ?_ | refine jL ?_) | refine jM (by omega) ?_ | refine jN (by omega) ?_ | with_reducible refine jM rfl ?_ | refine jM (by assumption) ?_ | refine jN (by assumption) ?_ | refine jM (by decide) ?_ | refine jN (by decide) ?_) | refine jF (ptr_ok tblOk rfl rfl) ?_ | refine jO (fun _ => by kernel_rfl) ?_ | refine jF (by decide) ?_ | refine hS.ld rfl ?_ | refine hS.ldn rfl ?_ | (refine hS.st rfl rfl ?_; intro _ hS))
      refine hS.al ?_
      intro b5 w4 _ hS
      repeat (first | refine SemW.run tblOk ?_ | refine jA (by omega) ?_ | refine jB (by omega) ?_ | refine jC (by omega) ?_ | refine jD (by omega) ?_ | refine jE rfl ?_ | refine jF (by omega) ?_ | (refine jG ?_; first | with_reducible (first | refine jH ?_ | refine jI ?_ | refine jJ ?_ | refine jK ?_ | refine jL ?_) | refine jM (by omega) ?_ | refine jN (by omega) ?_ | with_reducible refine jM rfl ?_ | refine jM (by assumption) ?_ | refine jN (by assumption) ?_ | refine jM (by decide) ?_ | refine jN (by decide) ?_) | refine jF (ptr_ok tblOk rfl rfl) ?_ | refine jO (fun _ => by kernel_rfl) ?_ | refine jF (by decide) ?_ | refine hS.ld rfl ?_ | refine hS.ldn rfl ?_ | (refine hS.st rfl rfl ?_; intro _ hS))
      refine hS.al ?_
      intro b6 w5 _ hS
      repeat (first | refine SemW.run tblOk ?_ | refine jA (by omega) ?_ | refine jB (by omega) ?_ | refine jC (by omega) ?_ | refine jD (by omega) ?_ | refine jE rfl ?_ | refine jF (by omega) ?_ | (refine jG ?_; first | with_reducible (first | refine jH ?_ | refine jI ?_ | refine jJ ?_ | refine jK ?_ | refine jL ?_) | refine jM (by omega) ?_ | refine jN (by omega) ?_ | with_reducible refine jM rfl ?_ | refine jM (by assumption) ?_ | refine jN (by assumption) ?_ | refine jM (by decide) ?_ | refine jN (by decide) ?_) | refine jF (ptr_ok tblOk rfl rfl) ?_ | refine jO (fun _ => by kernel_rfl) ?_ | refine jF (by decide) ?_ | refine hS.ld rfl ?_ | refine hS.ldn rfl ?_ | (refine hS.st rfl rfl ?_; intro _ hS))
      refine Cl.mono (cloneInt_spec (hS.arrOld hA.ids) hA.ni) ?_
      rintro _ w6 ⟨a', c', Lr, rfl, hv, hS'⟩
      have hS := hS.callNew hS'
      repeat (first | refine SemW.run tblOk ?_ | refine jA (by omega) ?_ | refine jB (by omega) ?_ | refine jC (by omega) ?_ | refine jD (by omega) ?_ | refine jE rfl ?_ | refine jF (by omega) ?_ | (refine jG ?_; first | with_reducible (first | refine jH ?_ | refine jI ?_ | refine jJ ?_ | refine jK ?_ | refine jL ?_) | refine jM (by omega) ?_ | refine jN (by omega) ?_ | with_reducible refine jM rfl ?_ | refine jM (by assumption) ?_ | refine jN (by assumption) ?_ | refine jM (by decide) ?_ | refine jN (by decide) ?_) | refine jF (ptr_ok tblOk rfl rfl) ?_ | refine jO (fun _ => by kernel_rfl) ?_ | refine jF (by decide) ?_ | refine hS.ld rfl ?_ | refine hS.ldn rfl ?_ | (refine hS.st rfl rfl ?_; intro _ hS))
      have hS : St w [] (Lr ++ ((b6, repO r a' c') :: (b5, .cells ⟨[ptr pb]⟩ T_wire_writer (0, 0)) :: (L ++ [(sb, .cells ⟨[Str (seatB r.pax.num r.pax.c)]⟩ T_string (0, 0)), (b1, repO r a cap)]))) _ := hS
      have hS : St w [] (Lr ++ ((b5, .cells ⟨[ptr pb]⟩ T_wire_writer (0, 0)) :: (((b6, repO r a' c') :: L) ++ [(sb, .cells ⟨[Str (seatB r.pax.num r.pax.c)]⟩ T_string (0, 0)), (b1, repO r a cap)]))) _ := hS.perm (List.Perm.append_left Lr (List.Perm.swap _ _ _))
      have hsbn : sb ∉ b6 :: keys L := by
        have h1 := hS.sub (((List.Sublist.append_left (List.Sublist.cons_cons _ (List.nil_sublist _)) _).trans (List.sublist_cons_self _ _)).trans (List.sublist_append_right _ _) : (((b6, repO r a' c') :: L) ++ [(sb, Obj.cells ⟨[Str (seatB r.pax.num r.pax.c)]⟩ T_string (0, 0))]).Sublist _)
        have h2 : St w [] ((sb, Obj.cells ⟨[Str (seatB r.pax.num r.pax.c)]⟩ T_string (0, 0)) :: ((b6, repO r a' c') :: L)) _ := h1.perm List.perm_append_comm
        exact nodup_chunk (L := (b6, repO r a' c') :: L) h2
      have hrn : ∀ b ∈ keys Lr, b ∉ b6 :: keys L := not_in (B := (b6, repO r a' c') :: L) (hS.sub (List.Sublist.append_left (List.sublist_cons_self _ _) Lr))
      refine Cl.mono (reply_wr (r := r) (a := a') (cap := c') hW (hS.part (L := (b6, repO r a' c') :: L)) ⟨hsbn, hS.cell (b := sb) rfl⟩ (hv.arr hS hrn) hok hA.ni hA.nt) ?_
      rintro _ w7 ⟨L2, hW, hS'⟩
      have hS := hS.call (L := (b6, repO r a' c') :: L) hS'
      have hS : St w [] (Lr ++ ((b5, .cells ⟨[ptr pb]⟩ T_wire_writer (0, 0)) :: (b6, repO r a' c') :: (L2 ++ [(sb, .cells ⟨[Str (seatB r.pax.num r.pax.c)]⟩ T_string (0, 0)), (b1, repO r a cap)]))) _ := hS
      repeat (first | refine SemW.run tblOk ?_ | refine jA (by omega) ?_ | refine jB (by omega) ?_ | refine jC (by omega) ?_ | refine jD (by omega) ?_ | refine jE rfl ?_ | refine jF (by omega) ?_ | (refine jG ?_; first | with_reducible (first | refine jH ?_ | refine jI ?_ | refine jJ ?_ | refine jK ?_ | refine jL ?_) | refine jM (by omega) ?_ | refine jN (by omega) ?_ | with_reducible refine jM rfl ?_ | refine jM (by assumption) ?_ | refine jN (by assumption) ?_ | refine jM (by decide) ?_ | refine jN (by decide) ?_) | refine jF (ptr_ok tblOk rfl rfl) ?_ | refine jO (fun _ => by kernel_rfl) ?_ | refine jF (by decide) ?_ | refine hS.ld rfl ?_ | refine hS.ldn rfl ?_ | (refine hS.st rfl rfl ?_; intro _ hS))
      refine Cl.mono (wseal_spec hW (hS.part (L := L2)) (by omega)) ?_
      rintro _ w8 ⟨rfl, hS'⟩
      have hS := hS.call0 hS'
      by_cases hl : (replyB r).length ≤ 65536
      · rw [if_pos hl, if_pos ⟨hsg, hl⟩]
        repeat (first | refine SemW.run tblOk ?_ | refine jA (by omega) ?_ | refine jB (by omega) ?_ | refine jC (by omega) ?_ | refine jD (by omega) ?_ | refine jE rfl ?_ | refine jF (by omega) ?_ | (refine jG ?_; first | with_reducible (first | refine jH ?_ | refine jI ?_ | refine jJ ?_ | refine jK ?_ | refine jL ?_) | refine jM (by omega) ?_ | refine jN (by omega) ?_ | with_reducible refine jM rfl ?_ | refine jM (by assumption) ?_ | refine jN (by assumption) ?_ | refine jM (by decide) ?_ | refine jN (by decide) ?_) | refine jF (ptr_ok tblOk rfl rfl) ?_ | refine jO (fun _ => by kernel_rfl) ?_ | refine jF (by decide) ?_ | refine hS.ld rfl ?_ | refine hS.ldn rfl ?_ | (refine hS.st rfl rfl ?_; intro _ hS))
        exact ⟨rfl, hS.nil⟩
      · rw [if_neg hl, if_neg (fun h => hl h.2)]
        repeat (first | refine SemW.run tblOk ?_ | refine jA (by omega) ?_ | refine jB (by omega) ?_ | refine jC (by omega) ?_ | refine jD (by omega) ?_ | refine jE rfl ?_ | refine jF (by omega) ?_ | (refine jG ?_; first | with_reducible (first | refine jH ?_ | refine jI ?_ | refine jJ ?_ | refine jK ?_ | refine jL ?_) | refine jM (by omega) ?_ | refine jN (by omega) ?_ | with_reducible refine jM rfl ?_ | refine jM (by assumption) ?_ | refine jN (by assumption) ?_ | refine jM (by decide) ?_ | refine jN (by decide) ?_) | refine jF (ptr_ok tblOk rfl rfl) ?_ | refine jO (fun _ => by kernel_rfl) ?_ | refine jF (by decide) ?_ | refine hS.ld rfl ?_ | refine hS.ldn rfl ?_ | (refine hS.st rfl rfl ?_; intro _ hS))
        exact ⟨rfl, hS.nil⟩
    | false =>
      have hne : seatB r.pax.num r.pax.c = [45] := Decidable.not_not.1 (of_decide_eq_false hsg)
      rw [if_neg (by rintro ⟨h, -⟩; cases h)]
      repeat (first | refine SemW.run tblOk ?_ | refine jA (by omega) ?_ | refine jB (by omega) ?_ | refine jC (by omega) ?_ | refine jD (by omega) ?_ | refine jE rfl ?_ | refine jF (by omega) ?_ | (refine jG ?_; first | with_reducible (first | refine jH ?_ | refine jI ?_ | refine jJ ?_ | refine jK ?_ | refine jL ?_) | refine jM (by omega) ?_ | refine jN (by omega) ?_ | with_reducible refine jM rfl ?_ | refine jM (by assumption) ?_ | refine jN (by assumption) ?_ | refine jM (by decide) ?_ | refine jN (by decide) ?_) | refine jF (ptr_ok tblOk rfl rfl) ?_ | refine jO (fun _ => by kernel_rfl) ?_ | refine jF (by decide) ?_ | refine hS.ld rfl ?_ | refine hS.ldn rfl ?_ | (refine hS.st rfl rfl ?_; intro _ hS))
      exact ⟨rfl, hS.nil⟩
end Go.Proofs.YthpmmfapolcaiaaGreatDoor

/- Regions that draw their order, with several effects: a class of worlds that all but the last keep. -/
namespace Go.Eng
open Go

section
variable {P : Program} {ops : Array Oper} {Q : Exit → Act → World → Prop} {md : Region.Mode} {S : Nat → World → World → Prop}
theorem wpAnyR_firstC {C : World → Prop} {n i : Nat} {oi : Oper} {v : Value} (hi : ops[i]? = some oi) (hsel : ∀ (j : Nat) (o : Oper) cs b, ops[j]? = some o → o.op ≠ .select cs b)
    (hQ : ∀ c a w, Q (.panic c) (a.put oi.dst v) w → Q (.panic c) a w) (hSi : ∀ w, C w → S i w w) :
    ∀ (fuel : Nat) (listed : Array Bool) (a : Act) (w : World), Closed ops listed →
      (∀ j oj, ops[j]? = some oj → j ≠ i → listed.getD j true = false → dep ops n j i = false → oi.apart ops oj = true ∧ ∀ w1 w2, C w1 → S j w1 w2 → C w2) →
      i ∈ Region.ready .any ops listed → YieldsIf P ops C oi v a → C w →
      wpAnyR P .any ops Q S fuel (listed.setIfInBounds i true) (a.put oi.dst v) w → wpAnyR P .any ops Q S (fuel + 1) listed a w := by
  intro fuel
  induction fuel with
  | zero =>
    intro listed a w _ _ hr hy hS H
    refine ⟨fun h => (by rw [h] at hr; cases hr), fun j hj => ?_⟩
    by_cases hji : j = i
    · subst hji; exact hy.wpOp hi hS ⟨hSi _ hS, H⟩
    · have := ready_mono hj hji
      rw [H.1] at this
      cases this
  | succ fuel ih =>
    intro listed a w hcl hfree hr hy hS H
    refine ⟨fun h => (by rw [h] at hr; cases hr), fun j hj => ?_⟩
    by_cases hji : j = i
    · subst hji; exact hy.wpOp hi hS ⟨hSi _ hS, H⟩
    · have h1 := H.2 j (ready_mono hj hji)
      obtain ⟨hjun, oj, hoj, hall⟩ := mem_ready.1 hj
      have hnot := ready_not_dep (n := n) hcl (mem_ready.1 hr).1 hj
      obtain ⟨hap, hkeep⟩ := hfree j oj hoj hji hjun hnot
      have h2 := wpOp_putIf hoj hap (fun cs b => hsel i oi cs b hi) (fun cs b => hsel j oj cs b hoj) hQ hy h1
      have hfree' : ∀ k ok, ops[k]? = some ok → k ≠ i → (listed.setIfInBounds j true).getD k true = false →
          dep ops n k i = false → oi.apart ops ok = true ∧ ∀ w1 w2, C w1 → S k w1 w2 → C w2 := fun k ok hk hki hun hno => by
        refine hfree k ok hk hki ?_ hno
        by_cases hjk : j = k
        · subst hjk; exact hjun
        · rw [getD_set_ne true hjk] at hun; exact hun
      refine wpOp_mono (fun a' w' h3 => ⟨h3.2.1, ih (listed.setIfInBounds j true) a' w' (hcl.set hj) hfree' (ready_mono hr (Ne.symm hji)) h3.1 (hkeep _ _ hS h3.2.1) ?_⟩) h2
      rw [Array.setIfInBounds_comm _ _ hji]
      exact h3.2.2
end
def classS (C : World → Prop) (fin : List Nat) (i : Nat) (_w w' : World) : Prop := i ∈ fin ∨ C w'
/-- What is left of a region that draws its order. -/
structure DrawK (P : Program) (T : Tbl) (N : Nat) (all : List Oper) (C : World → Prop) (fin : List Nat) (Q : Exit → Env → World → Prop) (n : Nat) (listed : Array Bool) (e : Env) (w : World) : Prop where
  out : ∀ a, Closed ⟨all⟩ listed → Rel N e a → wpAnyR P .any ⟨all⟩ (lift N Q) (classS C fin) n listed a w
def vcK (P : Program) (T : Tbl) (N : Nat) (all : List Oper) (C : World → Prop) (fin : List Nat) (Q : Exit → Env → World → Prop) (n : Nat) : List Nat → Array Bool → Env → World → Prop
  | [], listed, e, w => DrawK P T N all C fin Q n listed e w
  | i :: r, listed, e, w => atK all i fun o => grdG all o.guard e
    (fun e => match kind T o.op with
      | .pure => pureG P T e o.op fun v => putE N o.dst v e fun e' => vcK P T N all C fin Q n r (listed.setIfInBounds i true) e' w
      | .read => readG P T e C o fun v => putE N o.dst v e fun e' => vcK P T N all C fin Q n r (listed.setIfInBounds i true) e' w
      | .eff => False)
    (fun e => putE N o.dst undef e fun e' => vcK P T N all C fin Q n r (listed.setIfInBounds i true) e' w)
section
variable {P : Program} {T : Tbl} (hT : TOk P T) {N : Nat} {all : List Oper} {C : World → Prop} {fin : List Nat} {Q : Exit → Env → World → Prop}
include hT
theorem DrawK.takes (hsel : Region.noSelect ⟨all⟩ = true) (n : Nat) : ∀ (is : List Nat) {listed : Array Bool} {e : Env} {w : World} (_h : takesOK ⟨all⟩ (kind T) fin is listed = true) (_hC : C w) (_g : vcK P T N all C fin Q n is listed e w), DrawK P T N all C fin Q (n + is.length) listed e w
  | [], _, _, _, _, _, g => g
  | i :: r, listed, e, w, h, hCw, g => by
    refine ⟨fun a hcl hr => ?_⟩
    simp only [takesOK, Bool.and_eq_true] at h
    obtain ⟨h1, h2⟩ := h
    obtain ⟨o, ho, g⟩ := atK_iff g
    have ho' : (Array.mk all)[i]? = some o := by simpa using ho
    unfold takeOK at h1
    simp only [ho', Bool.and_eq_true] at h1
    obtain ⟨⟨⟨⟨hk, hrd⟩, hf⟩, hnf⟩, hw⟩ := h1
    have hready : i ∈ Region.ready .any ⟨all⟩ listed := by simpa using hrd
    have key : ∀ (v : Value) (e' : Env), YieldsIf P ⟨all⟩ C o v a → Rel N e' (a.put o.dst v) → vcK P T N all C fin Q n r (listed.setIfInBounds i true) e' w →
        wpAnyR P .any ⟨all⟩ (lift N Q) (classS C fin) (n + (i :: r).length) listed a w := by
      intro v e' hy hr' hv
      rw [List.length_cons, ← Nat.add_assoc]
      refine wpAnyR_firstC (C := C) (n := all.length) ho' (Region.noSelect_spec hsel) (fun c a w h => h.elim) (fun w hw => .inr hw) (n + r.length) listed a w hcl ?_ hready hy hCw ?_
      · intro j oj hj hne hun hd
        have hjlt : j < all.length := by have := (Array.getElem?_eq_some_iff.1 hj).1; simpa using this
        simp only [free', ho', List.all_eq_true, List.mem_range] at hf
        have h1 := hf j (by simpa using hjlt)
        have hd' : dep ⟨all⟩ (Array.mk all).size j i = false := hd
        simp only [hj, Bool.or_eq_true, beq_iff_eq, hne, false_or, hun, hd', Bool.false_eq_true] at h1
        refine ⟨h1, fun w1 w2 hw1 hw2 => ?_⟩
        rcases hw2 with hw2 | hw2
        · simp only [finWait, List.all_eq_true] at hw
          have h3 := hw j hw2
          simp only [Bool.or_eq_true, beq_iff_eq, hne, false_or, hun, hd', Bool.false_eq_true] at h3
        · exact hw2
      · exact (DrawK.takes hsel n r h2 hCw hv).out _ (hcl.set hready) hr'
    rcases grdG_iff hr g with ⟨e1, h1, h2, h3⟩ | ⟨e1, h1, h2, h3⟩
    · cases hk' : kind T o.op <;> simp only [hk'] at h3 hk
      case pure =>
        obtain ⟨v, h4, h5⟩ := pureG_sound hT h1 h3
        obtain ⟨e', h6, h7⟩ := putE_iff h4 h1
        exact key v e' (.inl ⟨h2, fun w _ => h5 w⟩) h6 h7
      case read =>
        obtain ⟨v, h4, h5⟩ := readG_sound hT h1 h3
        obtain ⟨e', h6, h7⟩ := putE_iff h4 h1
        exact key v e' (.inl ⟨h2, fun w hw => h5 w hw⟩) h6 h7
    · obtain ⟨e', h6, h7⟩ := putE_iff h3 h1
      exact key undef e' (.inr ⟨h2, rfl⟩) h6 h7
/-- Whatever may come up now. -/
theorem DrawK.alt {n : Nat} {listed : Array Bool} {e : Env} {w : World} (j : Nat) (js : List Nat) (h : Region.ready .any ⟨all⟩ listed = j :: js) (hC : C w)
    (g : allP (j :: js) fun i => atK all i fun o => grdG all o.guard e
      (fun e => match kind T o.op with
        | .pure => pureG P T e o.op fun v => putE N o.dst v e fun e' => DrawK P T N all C fin Q n (listed.setIfInBounds i true) e' w
        | .read => readG P T e C o fun v => putE N o.dst v e fun e' => DrawK P T N all C fin Q n (listed.setIfInBounds i true) e' w
        | .eff => effG P T e o w fun v w' => (match fin.elem i with
          | true => putE N o.dst v e fun e' => DrawK P T N all C fin Q n (listed.setIfInBounds i true) e' w'
          | false => Chk (C w') (putE N o.dst v e fun e' => DrawK P T N all C fin Q n (listed.setIfInBounds i true) e' w')))
      (fun e => putE N o.dst undef e fun e' => DrawK P T N all C fin Q n (listed.setIfInBounds i true) e' w)) : DrawK P T N all C fin Q (n + 1) listed e w := by
  refine ⟨fun a hcl hr => ⟨fun h0 => (by rw [h] at h0; cases h0), fun i hi => ?_⟩⟩
  have hcl' := hcl.set hi
  rw [h] at hi
  obtain ⟨o, ho, g⟩ := atK_iff (allP_mem g i hi)
  have ho' : (Array.mk all)[i]? = some o := by simpa using ho
  rcases grdG_iff hr g with ⟨e1, h1, h2, h3⟩ | ⟨e1, h1, h2, h3⟩
  · unfold wpOp
    simp only [ho', h2, if_true]
    refine .inl ?_
    cases hk : kind T o.op <;> simp only [hk] at h3
    case pure =>
      obtain ⟨v, h4, h5⟩ := pureG_sound hT h1 h3
      obtain ⟨e', h6, h7⟩ := putE_iff h4 h1
      exact Oper.wp_value (h5 w) ⟨.inr hC, h7.out _ hcl' h6⟩
    case read =>
      obtain ⟨v, h4, h5⟩ := readG_sound hT h1 h3
      obtain ⟨e', h6, h7⟩ := putE_iff h4 h1
      exact Oper.wp_value (h5 w hC) ⟨.inr hC, h7.out _ hcl' h6⟩
    case eff =>
      refine effG_sound hT h1 h3 fun v w' hk' => ?_
      cases hf : fin.elem i <;> rw [hf] at hk'
      · obtain ⟨e', h6, h7⟩ := putE_iff hk'.q h1
        exact ⟨.inr hk'.p, h7.out _ hcl' h6⟩
      · obtain ⟨e', h6, h7⟩ := putE_iff hk' h1
        exact ⟨.inl (by simpa using hf), h7.out _ hcl' h6⟩
  · obtain ⟨e', h6, h7⟩ := putE_iff h3 h1
    unfold wpOp
    simp only [ho', h2, Bool.false_eq_true, if_false]
    exact ⟨.inr hC, h7.out _ hcl' h6⟩
omit hT in
theorem DrawK.done {n : Nat} {listed : Array Bool} {e : Env} {w : World} (h : Region.ready .any ⟨all⟩ listed = []) (hk : Q .normal e w) : DrawK P T N all C fin Q n listed e w := by
  refine ⟨fun a _ hr => ?_⟩
  cases n with
  | zero => exact ⟨h, e, hr, hk⟩
  | succ n => exact ⟨fun _ => ⟨e, hr, hk⟩, fun i hi => by rw [h] at hi; cases hi⟩
end
theorem SemW.drawC {P : Program} {T : Tbl} (_hT : TOk P T) {N : Nat} {all : List Oper} {Q : Exit → Env → World → Prop} {id : Nat} {e : Env} {w : World} (hm : P.follows .mixedOrders = true) (C : World → Prop) (fin : List Nat) (h : DrawK P T N all C fin Q all.length (Array.replicate (Array.mk all).size false) e w.drew) : StopW P N (.region id ⟨all⟩ true) Q e w :=
  ⟨fun a hr => wp_region_any hm (wpAny_of_R _ _ _ _ (h.out a (by
    intro j oj _ hl
    simp only [Array.getD_eq_getD_getElem?, Array.getElem?_replicate] at hl
    split at hl <;> simp at hl) hr))⟩
/-- The ways through a piece of code meet again. -/
def mtQ (K : Env → World → Prop) : Exit → Env → World → Prop
  | .normal, e, w => K e w
  | _, _, _ => False
theorem StopW.meet {P : Program} {N : Nat} {c y : Code} {Q1 Q2 : Exit → Env → World → Prop} {e : Env} {w : World} {ι : Type} (I : ι → Env) (J : ι → World → Prop)
    (h : StopW P N c (mtQ fun e' w' => ∃ i, subG (I i) e' ∧ J i w') e w) (hy : ∀ i w', J i w' → SemW P N y Q1 (I i) w') : StopW P N c (thenQ (SemW P N y Q1) Q2) e w := by
  refine ⟨h.out.mono fun ex e' w' hq => ?_⟩
  cases ex with
  | normal =>
    obtain ⟨i, h1, h2⟩ := hq
    exact SemW.weaken h1 (hy i w' h2)
  | _ => exact hq.elim
end Go.Eng

/- tarmacref23.Reply. -/
namespace Go.Proofs.YthpmmfapolcaiaaGreatDoor
open Go Go.Eng Go.Proofs
theorem bit23_spec {w : World} (b : Bool) (n : Nat) : Cl Tryz.prog f_tarmacref23_bit [.bool b, .int .u64 n] w fun v w' => v = .int .u64 (bitN b n : Nat) ∧ St w [] [] w' := by
  have hS := St.start w
  refine en_tarmacref23_bit rfl ?_
  cases b with
  | true =>
    repeat (first | refine SemW.run tblOk ?_ | refine jA (by omega) ?_ | refine jB (by omega) ?_ | refine jC (by omega) ?_ | refine jD (by omega) ?_ | refine jE rfl ?_ | refine jF (by omega) ?_ | (refine jG ?_; first | with_reducible (first | refine jH ?_ | refine jI ?_ | refine jJ ?_ | refine jK ?_ | refine jL ?_) | refine jM (by omega) ?_ | refine jN (by omega) ?_ | with_reducible refine jM rfl ?_ | refine jM (by assumption) ?_ | refine jN (by assumption) ?_ | refine jM (by decide) ?_ | refine jN (by decide) ?_) | refine jF (ptr_ok tblOk rfl rfl) ?_ | refine jO (fun _ => by kernel_rfl) ?_ | refine jF (by decide) ?_)
    exact ⟨rfl, hS⟩
  | false =>
    repeat (first | refine SemW.run tblOk ?_ | refine jA (by omega) ?_ | refine jB (by omega) ?_ | refine jC (by omega) ?_ | refine jD (by omega) ?_ | refine jE rfl ?_ | refine jF (by omega) ?_ | (refine jG ?_; first | with_reducible (first | refine jH ?_ | refine jI ?_ | refine jJ ?_ | refine jK ?_ | refine jL ?_) | refine jM (by omega) ?_ | refine jN (by omega) ?_ | with_reducible refine jM rfl ?_ | refine jM (by assumption) ?_ | refine jN (by assumption) ?_ | refine jM (by decide) ?_ | refine jN (by decide) ?_) | refine jF (ptr_ok tblOk rfl rfl) ?_ | refine jO (fun _ => by kernel_rfl) ?_ | refine jF (by decide) ?_)
    exact ⟨rfl, hS⟩
theorem paxB_ten (p : PaxM) (hp : p.ok) : (paxB p).length ≤ 200 := by
  have h1 := intsB_ten [p.flight, p.cab, p.cls, p.status, p.tick, p.pass] (all6 hp.flight hp.cab hp.cls hp.status hp.tick hp.pass).2
  have h2 := marksN_lt [p.fit, p.infant, p.vol, p.stb]
  have h3 := numB_len10 (marksN [p.fit, p.infant, p.vol, p.stb]) (by simp only [List.length_cons, List.length_nil] at h2; omega)
  have h4 := seatB_len p.num p.c
  have h5 := numB_len10 (seatB p.num p.c).length (by omega)
  unfold paxB textB
  simp only [List.length_append, List.length_cons, List.length_nil] at h1 ⊢
  omega
theorem replyB_parts (r : ReplyM) : replyB r = (intsB [r.code] ++ numB r.ids.length ++ intsB r.ids ++ intsB [r.n0, r.n1, r.n2, r.n3]) ++ (numB (bitN r.over 1) ++ intsB [r.pax.id] ++ paxB r.pax ++ textB r.text) := by
  rw [bit_mark]
  unfold replyB paxB paxI
  simp [intsB]
theorem seatGood_iff (n : Int) (c : Nat) : seatGood n c = true ↔ ¬ (¬ (n = 0 ∧ c = 0) ∧ labelB n c = [45]) := by
  unfold seatGood seatB
  by_cases h : n = 0 ∧ c = 0
  · rw [if_pos h]; simp [h]
  · rw [if_neg h]; simp [h]
set_option maxRecDepth 4000 in
set_option maxHeartbeats 8000000 in
theorem Reply23_spec {w : World} {r : ReplyM} {a : Option Addr} {cap : Nat} (hr : ArgR w r a cap) :
    Cl Tryz.prog f_tarmacref23_Reply [.agg ⟨replyC r a cap⟩] w fun v w' => v = .tuple ⟨repOut r⟩ ∧ St w [] [] w' := by
  have hS := St.start w
  have hni := hr.ni
  have hnt := hr.nt
  have hA := intsB_ten [r.code] (all1 hr.ok.code).2
  have hB := numB_len10 r.ids.length (by omega)
  have hC := intsB_ten r.ids hr.ok.ids
  have hD := intsB_ten [r.n0, r.n1, r.n2, r.n3] (all4 hr.ok.n0 hr.ok.n1 hr.ok.n2 hr.ok.n3).2
  have hb1 := bitN_le r.over 1
  have hE := numB_len10 (bitN r.over 1) (by omega)
  have hF := intsB_ten [r.pax.id] (all1 hr.ok.pax.id).2
  have hG0 := paxB_ten r.pax hr.ok.pax
  have hH : (textB r.text).length ≤ 10 + r.text.length := by
    have := numB_len10 r.text.length (by omega)
    unfold textB; rw [List.length_append]; omega
  simp only [List.length_cons, List.length_nil] at hA hD hF
  refine en_tarmacref23_Reply rfl ?_
  repeat (first | refine SemW.run tblOk ?_ | refine jA (by omega) ?_ | refine jB (by omega) ?_ | refine jC (by omega) ?_ | refine jD (by omega) ?_ | refine jE rfl ?_ | refine jF (by omega) ?_ | (refine jG ?_; first | with_reducible (first | refine jH ?_ | refine jI ?_ | refine jJ ?_ | refine jK ?_ | refine jL ?_) | refine jM (by omega) ?_ | refine jN (by omega) ?_ | with_reducible refine jM rfl ?_ | refine jM (by assumption) ?_ | refine jN (by assumption) ?_ | refine jM (by decide) ?_ | refine jN (by decide) ?_) | refine jF (ptr_ok tblOk rfl rfl) ?_ | refine jO (fun _ => by kernel_rfl) ?_ | refine jF (by decide) ?_)
  refine hS.al ?_
  intro b1 w1 _ hS
  repeat (first | refine jA (by omega) ?_ | refine jB (by omega) ?_ | refine jC (by omega) ?_ | refine jD (by omega) ?_ | refine jE rfl ?_ | refine jF (by omega) ?_ | (refine jG ?_; first | with_reducible (first | refine jH ?_ | refine jI ?_ | refine jJ ?_ | refine jK ?_ | refine jL ?_) | refine jM (by omega) ?_ | refine jN (by omega) ?_ | with_reducible refine jM rfl ?_ | refine jM (by assumption) ?_ | refine jN (by assumption) ?_ | refine jM (by decide) ?_ | refine jN (by decide) ?_) | refine jF (ptr_ok tblOk rfl rfl) ?_ | refine jO (fun _ => by kernel_rfl) ?_ | refine jF (by decide) ?_ | refine hS.ld rfl ?_ | refine hS.ldn rfl ?_ | (refine hS.st rfl rfl ?_; intro _ hS))
  refine SemW.join (fun _ : Unit => [(1, ptr b1)]) (fun _ w' => seatGood r.pax.num r.pax.c = true ∧ St w [] [(b1, repO r a cap)] w') ?_ ?_
  · repeat (first | refine SemW.run tblOk ?_ | refine jA (by omega) ?_ | refine jB (by omega) ?_ | refine jC (by omega) ?_ | refine jD (by omega) ?_ | refine jE rfl ?_ | refine jF (by omega) ?_ | (refine jG ?_; first | with_reducible (first | refine jH ?_ | refine jI ?_ | refine jJ ?_ | refine jK ?_ | refine jL ?_) | refine jM (by omega) ?_ | refine jN (by omega) ?_ | with_reducible refine jM rfl ?_ | refine jM (by assumption) ?_ | refine jN (by assumption) ?_ | refine jM (by decide) ?_ | refine jN (by decide) ?_) | refine jF (ptr_ok tblOk rfl rfl) ?_ | refine jO (fun _ => by kernel_rfl) ?_ | refine jF (by decide) ?_ | refine hS.ld rfl ?_ | refine hS.ldn rfl ?_ | (refine hS.st rfl rfl ?_; intro _ hS))
    refine neqAgg (n := 2) (by omega) (by kernel_rfl) (eqSeat r.pax.num r.pax.c 0 0) ?_
    by_cases hz : r.pax.num = 0 ∧ r.pax.c = 0
    · rw [decide_eq_true hz]
      repeat (first | refine SemW.run tblOk ?_ | refine jA (by omega) ?_ | refine jB (by omega) ?_ | refine jC (by omega) ?_ | refine jD (by omega) ?_ | refine jE rfl ?_ | refine jF (by omega) ?_ | (refine jG ?_; first | with_reducible (first | refine jH ?_ | refine jI ?_ | refine jJ ?_ | refine jK ?_ | refine jL ?_) | refine jM (by omega) ?_ | refine jN (by omega) ?_ | with_reducible refine jM rfl ?_ | refine jM (by assumption) ?_ | refine jN (by assumption) ?_ | refine jM (by decide) ?_ | refine jN (by decide) ?_) | refine jF (ptr_ok tblOk rfl rfl) ?_ | refine jO (fun _ => by kernel_rfl) ?_ | refine jF (by decide) ?_ | refine hS.ld rfl ?_ | refine hS.ldn rfl ?_ | (refine hS.st rfl rfl ?_; intro _ hS))
      exact ⟨(), ⟨rfl, trivial⟩, (seatGood_iff _ _).2 (fun h => h.1 hz), hS⟩
    · rw [decide_eq_false hz]
      repeat (first | refine SemW.run tblOk ?_ | refine jA (by omega) ?_ | refine jB (by omega) ?_ | refine jC (by omega) ?_ | refine jD (by omega) ?_ | refine jE rfl ?_ | refine jF (by omega) ?_ | (refine jG ?_; first | with_reducible (first | refine jH ?_ | refine jI ?_ | refine jJ ?_ | refine jK ?_ | refine jL ?_) | refine jM (by omega) ?_ | refine jN (by omega) ?_ | with_reducible refine jM rfl ?_ | refine jM (by assumption) ?_ | refine jN (by assumption) ?_ | refine jM (by decide) ?_ | refine jN (by decide) ?_) | refine jF (ptr_ok tblOk rfl rfl) ?_ | refine jO (fun _ => by kernel_rfl) ?_ | refine jF (by decide) ?_ | refine hS.ld rfl ?_ | refine hS.ldn rfl ?_ | (refine hS.st rfl rfl ?_; intro _ hS))
      refine Cl.mono (R13Label_spec r.pax.num r.pax.c hr.ok.pax.c) ?_
      rintro _ w2 ⟨rfl, hS'⟩
      have hS := hS.call0 hS'
      by_cases hd : labelB r.pax.num r.pax.c = [45]
      · repeat (first | refine SemW.run tblOk ?_ | refine jA (by omega) ?_ | refine jB (by omega) ?_ | refine jC (by omega) ?_ | refine jD (by omega) ?_ | refine jE rfl ?_ | refine jF (by omega) ?_ | (refine jG ?_; first | with_reducible (first | refine jH ?_ | refine jI ?_ | refine jJ ?_ | refine jK ?_ | refine jL ?_) | refine jM (by omega) ?_ | refine jN (by omega) ?_ | with_reducible refine jM rfl ?_ | refine jM (by assumption) ?_ | refine jN (by assumption) ?_ | refine jM (by decide) ?_ | refine jN (by decide) ?_) | refine jF (ptr_ok tblOk rfl rfl) ?_ | refine jO (fun _ => by kernel_rfl) ?_ | refine jF (by decide) ?_ | refine hS.ld rfl ?_ | refine hS.ldn rfl ?_ | (refine hS.st rfl rfl ?_; intro _ hS))
        refine ⟨?_, hS.nil⟩
        unfold repOut
        rw [if_neg (fun h => (seatGood_iff _ _).1 h.1 ⟨hz, hd⟩)]
      · repeat (first | refine SemW.run tblOk ?_ | refine jA (by omega) ?_ | refine jB (by omega) ?_ | refine jC (by omega) ?_ | refine jD (by omega) ?_ | refine jE rfl ?_ | refine jF (by omega) ?_ | (refine jG ?_; first | with_reducible (first | refine jH ?_ | refine jI ?_ | refine jJ ?_ | refine jK ?_ | refine jL ?_) | refine jM (by omega) ?_ | refine jN (by omega) ?_ | with_reducible refine jM rfl ?_ | refine jM (by assumption) ?_ | refine jN (by assumption) ?_ | refine jM (by decide) ?_ | refine jN (by decide) ?_) | refine jF (ptr_ok tblOk rfl rfl) ?_ | refine jO (fun _ => by kernel_rfl) ?_ | refine jF (by decide) ?_ | refine hS.ld rfl ?_ | refine hS.ldn rfl ?_ | (refine hS.st rfl rfl ?_; intro _ hS))
        exact ⟨(), ⟨rfl, trivial⟩, (seatGood_iff _ _).2 (fun h => hd h.2), hS⟩
  clear hS
  rintro _ w9 ⟨hgood, hS⟩
  refine SemW.run tblOk ?_
  refine StopW.meet (fun _ : Unit => [(1, ptr b1), (4, Str (intsB [r.code] ++ numB r.ids.length ++ intsB r.ids ++ intsB [r.n0, r.n1, r.n2, r.n3]))]) (fun _ w' => St w [] [(b1, repO r a cap)] w') ?_ ?_
  · refine SemW.drawR tblOk mixed [] ?_
    have hS := hS.drew
    refine DrawG.takes tblOk (by kernel_rfl) 10 [0, 1, 4, 5, 6, 7, 10, 11, 14, 15, 16, 17, 18, 19, 20, 21, 22, 23, 24, 25] (by kernel_rfl) ?_
    repeat (first | refine SemW.run tblOk ?_ | refine jA (by omega) ?_ | refine jB (by omega) ?_ | refine jC (by omega) ?_ | refine jD (by omega) ?_ | refine jE rfl ?_ | refine jF (by omega) ?_ | (refine jG ?_; first | with_reducible (first | refine jH ?_ | refine jI ?_ | refine jJ ?_ | refine jK ?_ | refine jL ?_) | refine jM (by omega) ?_ | refine jN (by omega) ?_ | with_reducible refine jM rfl ?_ | refine jM (by assumption) ?_ | refine jN (by assumption) ?_ | refine jM (by decide) ?_ | refine jN (by decide) ?_) | refine jF (ptr_ok tblOk rfl rfl) ?_ | refine jO (fun _ => by kernel_rfl) ?_ | refine jF (by decide) ?_ | refine hS.ldG rfl ?_ | refine hS.ldnG rfl ?_)
    refine DrawG.alt tblOk 2 [26] (by kernel_rfl) ⟨?_, ?_, trivial⟩
    · refine hS.alG ?_
      intro q2 w2 hG hS
      refine Chk.mk hG ?_
      refine DrawG.alt tblOk 3 [26] (by kernel_rfl) ⟨?_, ?_, trivial⟩
      · refine Cl.mono (ints_spec (l := [r.code]) (hS.arr (b := q2) (by simp)) (all1 hr.ok.code).2 (by simp)) ?_
        rintro _ w3 ⟨rfl, hS'⟩
        refine Chk.mk hS' ?_
        have hS := hS.call0 hS'
        clear hS'
        refine DrawG.alt tblOk 8 [26] (by kernel_rfl) ⟨?_, ?_, trivial⟩
        · refine Cl.mono (NumE_spec r.ids.length (by omega)) ?_
          rintro _ w8 ⟨rfl, hS'⟩
          refine Chk.mk hS' ?_
          have hS := hS.call0 hS'
          clear hS'
          refine DrawG.takes tblOk (by kernel_rfl) 6 [9] (by kernel_rfl) ?_
          repeat (first | refine SemW.run tblOk ?_ | refine jA (by omega) ?_ | refine jB (by omega) ?_ | refine jC (by omega) ?_ | refine jD (by omega) ?_ | refine jE rfl ?_ | refine jF (by omega) ?_ | (refine jG ?_; first | with_reducible (first | refine jH ?_ | refine jI ?_ | refine jJ ?_ | refine jK ?_ | refine jL ?_) | refine jM (by omega) ?_ | refine jN (by omega) ?_ | with_reducible refine jM rfl ?_ | refine jM (by assumption) ?_ | refine jN (by assumption) ?_ | refine jM (by decide) ?_ | refine jN (by decide) ?_) | refine jF (ptr_ok tblOk rfl rfl) ?_ | refine jO (fun _ => by kernel_rfl) ?_ | refine jF (by decide) ?_ | refine hS.ldG rfl ?_ | refine hS.ldnG rfl ?_)
          refine DrawG.alt tblOk 12 [26] (by kernel_rfl) ⟨?_, ?_, trivial⟩
          · refine Cl.mono (ints_spec (hr.keep hS.nil).ids hr.ok.ids hr.ni) ?_
            rintro _ w12 ⟨rfl, hS'⟩
            refine Chk.mk hS' ?_
            have hS := hS.call0 hS'
            clear hS'
            refine DrawG.takes tblOk (by kernel_rfl) 4 [13] (by kernel_rfl) ?_
            repeat (first | refine SemW.run tblOk ?_ | refine jA (by omega) ?_ | refine jB (by omega) ?_ | refine jC (by omega) ?_ | refine jD (by omega) ?_ | refine jE rfl ?_ | refine jF (by omega) ?_ | (refine jG ?_; first | with_reducible (first | refine jH ?_ | refine jI ?_ | refine jJ ?_ | refine jK ?_ | refine jL ?_) | refine jM (by omega) ?_ | refine jN (by omega) ?_ | with_reducible refine jM rfl ?_ | refine jM (by assumption) ?_ | refine jN (by assumption) ?_ | refine jM (by decide) ?_ | refine jN (by decide) ?_) | refine jF (ptr_ok tblOk rfl rfl) ?_ | refine jO (fun _ => by kernel_rfl) ?_ | refine jF (by decide) ?_ | refine hS.ldG rfl ?_ | refine hS.ldnG rfl ?_)
            refine Chk.mk (by simp only [List.length_append]; omega) ?_
            repeat (first | refine SemW.run tblOk ?_ | refine jA (by omega) ?_ | refine jB (by omega) ?_ | refine jC (by omega) ?_ | refine jD (by omega) ?_ | refine jE rfl ?_ | refine jF (by omega) ?_ | (refine jG ?_; first | with_reducible (first | refine jH ?_ | refine jI ?_ | refine jJ ?_ | refine jK ?_ | refine jL ?_) | refine jM (by omega) ?_ | refine jN (by omega) ?_ | with_reducible refine jM rfl ?_ | refine jM (by assumption) ?_ | refine jN (by assumption) ?_ | refine jM (by decide) ?_ | refine jN (by decide) ?_) | refine jF (ptr_ok tblOk rfl rfl) ?_ | refine jO (fun _ => by kernel_rfl) ?_ | refine jF (by decide) ?_ | refine hS.ldG rfl ?_ | refine hS.ldnG rfl ?_)
            refine DrawG.alt tblOk 26 [] (by kernel_rfl) ⟨?_, trivial⟩
            refine hS.alG ?_
            intro q26 w26 hG hS
            refine Chk.mk hG ?_
            refine DrawG.alt tblOk 27 [] (by kernel_rfl) ⟨?_, trivial⟩
            refine Cl.mono (ints_spec (l := [r.n0, r.n1, r.n2, r.n3]) (hS.arr (b := q26) (by simp)) (all4 hr.ok.n0 hr.ok.n1 hr.ok.n2 hr.ok.n3).2 (by simp)) ?_
            rintro _ w27 ⟨rfl, hS'⟩
            refine Chk.mk hS' ?_
            have hS := hS.call0 hS'
            clear hS'
            refine DrawG.takes tblOk (by kernel_rfl) 1 [28] (by kernel_rfl) ?_
            repeat (first | refine SemW.run tblOk ?_ | refine jA (by omega) ?_ | refine jB (by omega) ?_ | refine jC (by omega) ?_ | refine jD (by omega) ?_ | refine jE rfl ?_ | refine jF (by omega) ?_ | (refine jG ?_; first | with_reducible (first | refine jH ?_ | refine jI ?_ | refine jJ ?_ | refine jK ?_ | refine jL ?_) | refine jM (by omega) ?_ | refine jN (by omega) ?_ | with_reducible refine jM rfl ?_ | refine jM (by assumption) ?_ | refine jN (by assumption) ?_ | refine jM (by decide) ?_ | refine jN (by decide) ?_) | refine jF (ptr_ok tblOk rfl rfl) ?_ | refine jO (fun _ => by kernel_rfl) ?_ | refine jF (by decide) ?_ | refine hS.ldG rfl ?_ | refine hS.ldnG rfl ?_)
            refine Chk.mk (by simp only [List.length_append]; omega) ?_
            repeat (first | refine SemW.run tblOk ?_ | refine jA (by omega) ?_ | refine jB (by omega) ?_ | refine jC (by omega) ?_ | refine jD (by omega) ?_ | refine jE rfl ?_ | refine jF (by omega) ?_ | (refine jG ?_; first | with_reducible (first | refine jH ?_ | refine jI ?_ | refine jJ ?_ | refine jK ?_ | refine jL ?_) | refine jM (by omega) ?_ | refine jN (by omega) ?_ | with_reducible refine jM rfl ?_ | refine jM (by assumption) ?_ | refine jN (by assumption) ?_ | refine jM (by decide) ?_ | refine jN (by decide) ?_) | refine jF (ptr_ok tblOk rfl rfl) ?_ | refine jO (fun _ => by kernel_rfl) ?_ | refine jF (by decide) ?_ | refine hS.ldG rfl ?_ | refine hS.ldnG rfl ?_)
            refine DrawG.takes tblOk (by kernel_rfl) 0 [29] (by kernel_rfl) ?_
            repeat (first | refine SemW.run tblOk ?_ | refine jA (by omega) ?_ | refine jB (by omega) ?_ | refine jC (by omega) ?_ | refine jD (by omega) ?_ | refine jE rfl ?_ | refine jF (by omega) ?_ | (refine jG ?_; first | with_reducible (first | refine jH ?_ | refine jI ?_ | refine jJ ?_ | refine jK ?_ | refine jL ?_) | refine jM (by omega) ?_ | refine jN (by omega) ?_ | with_reducible refine jM rfl ?_ | refine jM (by assumption) ?_ | refine jN (by assumption) ?_ | refine jM (by decide) ?_ | refine jN (by decide) ?_) | refine jF (ptr_ok tblOk rfl rfl) ?_ | refine jO (fun _ => by kernel_rfl) ?_ | refine jF (by decide) ?_ | refine hS.ldG rfl ?_ | refine hS.ldnG rfl ?_)
            refine DrawG.done (by kernel_rfl) ?_
            exact ⟨(), ⟨rfl, rfl, trivial⟩, hS.sub (by simp)⟩
          · refine hS.alG ?_
            intro q26 w26 hG hS
            refine Chk.mk hG ?_
            refine DrawG.alt tblOk 12 [] (by kernel_rfl) ⟨?_, trivial⟩
            refine Cl.mono (ints_spec (hr.keep hS.nil).ids hr.ok.ids hr.ni) ?_
            rintro _ w12 ⟨rfl, hS'⟩
            refine Chk.mk hS' ?_
            have hS := hS.call0 hS'
            clear hS'
            refine DrawG.takes tblOk (by kernel_rfl) 3 [13] (by kernel_rfl) ?_
            repeat (first | refine SemW.run tblOk ?_ | refine jA (by omega) ?_ | refine jB (by omega) ?_ | refine jC (by omega) ?_ | refine jD (by omega) ?_ | refine jE rfl ?_ | refine jF (by omega) ?_ | (refine jG ?_; first | with_reducible (first | refine jH ?_ | refine jI ?_ | refine jJ ?_ | refine jK ?_ | refine jL ?_) | refine jM (by omega) ?_ | refine jN (by omega) ?_ | with_reducible refine jM rfl ?_ | refine jM (by assumption) ?_ | refine jN (by assumption) ?_ | refine jM (by decide) ?_ | refine jN (by decide) ?_) | refine jF (ptr_ok tblOk rfl rfl) ?_ | refine jO (fun _ => by kernel_rfl) ?_ | refine jF (by decide) ?_ | refine hS.ldG rfl ?_ | refine hS.ldnG rfl ?_)
            refine Chk.mk (by simp only [List.length_append]; omega) ?_
            repeat (first | refine SemW.run tblOk ?_ | refine jA (by omega) ?_ | refine jB (by omega) ?_ | refine jC (by omega) ?_ | refine jD (by omega) ?_ | refine jE rfl ?_ | refine jF (by omega) ?_ | (refine jG ?_; first | with_reducible (first | refine jH ?_ | refine jI ?_ | refine jJ ?_ | refine jK ?_ | refine jL ?_) | refine jM (by omega) ?_ | refine jN (by omega) ?_ | with_reducible refine jM rfl ?_ | refine jM (by assumption) ?_ | refine jN (by assumption) ?_ | refine jM (by decide) ?_ | refine jN (by decide) ?_) | refine jF (ptr_ok tblOk rfl rfl) ?_ | refine jO (fun _ => by kernel_rfl) ?_ | refine jF (by decide) ?_ | refine hS.ldG rfl ?_ | refine hS.ldnG rfl ?_)
            refine DrawG.alt tblOk 27 [] (by kernel_rfl) ⟨?_, trivial⟩
            refine Cl.mono (ints_spec (l := [r.n0, r.n1, r.n2, r.n3]) (hS.arr (b := q26) (by simp)) (all4 hr.ok.n0 hr.ok.n1 hr.ok.n2 hr.ok.n3).2 (by simp)) ?_
            rintro _ w27 ⟨rfl, hS'⟩
            refine Chk.mk hS' ?_
            have hS := hS.call0 hS'
            clear hS'
            refine DrawG.takes tblOk (by kernel_rfl) 1 [28] (by kernel_rfl) ?_
            repeat (first | refine SemW.run tblOk ?_ | refine jA (by omega) ?_ | refine jB (by omega) ?_ | refine jC (by omega) ?_ | refine jD (by omega) ?_ | refine jE rfl ?_ | refine jF (by omega) ?_ | (refine jG ?_; first | with_reducible (first | refine jH ?_ | refine jI ?_ | refine jJ ?_ | refine jK ?_ | refine jL ?_) | refine jM (by omega) ?_ | refine jN (by omega) ?_ | with_reducible refine jM rfl ?_ | refine jM (by assumption) ?_ | refine jN (by assumption) ?_ | refine jM (by decide) ?_ | refine jN (by decide) ?_) | refine jF (ptr_ok tblOk rfl rfl) ?_ | refine jO (fun _ => by kernel_rfl) ?_ | refine jF (by decide) ?_ | refine hS.ldG rfl ?_ | refine hS.ldnG rfl ?_)
            refine Chk.mk (by simp only [List.length_append]; omega) ?_
            repeat (first | refine SemW.run tblOk ?_ | refine jA (by omega) ?_ | refine jB (by omega) ?_ | refine jC (by omega) ?_ | refine jD (by omega) ?_ | refine jE rfl ?_ | refine jF (by omega) ?_ | (refine jG ?_; first | with_reducible (first | refine jH ?_ | refine jI ?_ | refine jJ ?_ | refine jK ?_ | refine jL ?_) | refine jM (by omega) ?_ | refine jN (by omega) ?_ | with_reducible refine jM rfl ?_ | refine jM (by assumption) ?_ | refine jN (by assumption) ?_ | refine jM (by decide) ?_ | refine jN (by decide) ?_) | refine jF (ptr_ok tblOk rfl rfl) ?_ | refine jO (fun _ => by kernel_rfl) ?_ | refine jF (by decide) ?_ | refine hS.ldG rfl ?_ | refine hS.ldnG rfl ?_)
            refine DrawG.takes tblOk (by kernel_rfl) 0 [29] (by kernel_rfl) ?_
            repeat (first | refine SemW.run tblOk ?_ | refine jA (by omega) ?_ | refine jB (by omega) ?_ | refine jC (by omega) ?_ | refine jD (by omega) ?_ | refine jE rfl ?_ | refine jF (by omega) ?_ | (refine jG ?_; first | with_reducible (first | refine jH ?_ | refine jI ?_ | refine jJ ?_ | refine jK ?_ | refine jL ?_) | refine jM (by omega) ?_ | refine jN (by omega) ?_ | with_reducible refine jM rfl ?_ | refine jM (by assumption) ?_ | refine jN (by assumption) ?_ | refine jM (by decide) ?_ | refine jN (by decide) ?_) | refine jF (ptr_ok tblOk rfl rfl) ?_ | refine jO (fun _ => by kernel_rfl) ?_ | refine jF (by decide) ?_ | refine hS.ldG rfl ?_ | refine hS.ldnG rfl ?_)
            refine DrawG.done (by kernel_rfl) ?_
            exact ⟨(), ⟨rfl, rfl, trivial⟩, hS.sub (by simp)⟩
        · refine hS.alG ?_
          intro q26 w26 hG hS
          refine Chk.mk hG ?_
          refine DrawG.alt tblOk 8 [] (by kernel_rfl) ⟨?_, trivial⟩
          refine Cl.mono (NumE_spec r.ids.length (by omega)) ?_
          rintro _ w8 ⟨rfl, hS'⟩
          refine Chk.mk hS' ?_
          have hS := hS.call0 hS'
          clear hS'
          refine DrawG.takes tblOk (by kernel_rfl) 5 [9] (by kernel_rfl) ?_
          repeat (first | refine SemW.run tblOk ?_ | refine jA (by omega) ?_ | refine jB (by omega) ?_ | refine jC (by omega) ?_ | refine jD (by omega) ?_ | refine jE rfl ?_ | refine jF (by omega) ?_ | (refine jG ?_; first | with_reducible (first | refine jH ?_ | refine jI ?_ | refine jJ ?_ | refine jK ?_ | refine jL ?_) | refine jM (by omega) ?_ | refine jN (by omega) ?_ | with_reducible refine jM rfl ?_ | refine jM (by assumption) ?_ | refine jN (by assumption) ?_ | refine jM (by decide) ?_ | refine jN (by decide) ?_) | refine jF (ptr_ok tblOk rfl rfl) ?_ | refine jO (fun _ => by kernel_rfl) ?_ | refine jF (by decide) ?_ | refine hS.ldG rfl ?_ | refine hS.ldnG rfl ?_)
          refine DrawG.alt tblOk 12 [] (by kernel_rfl) ⟨?_, trivial⟩
          refine Cl.mono (ints_spec (hr.keep hS.nil).ids hr.ok.ids hr.ni) ?_
          rintro _ w12 ⟨rfl, hS'⟩
          refine Chk.mk hS' ?_
          have hS := hS.call0 hS'
          clear hS'
          refine DrawG.takes tblOk (by kernel_rfl) 3 [13] (by kernel_rfl) ?_
          repeat (first | refine SemW.run tblOk ?_ | refine jA (by omega) ?_ | refine jB (by omega) ?_ | refine jC (by omega) ?_ | refine jD (by omega) ?_ | refine jE rfl ?_ | refine jF (by omega) ?_ | (refine jG ?_; first | with_reducible (first | refine jH ?_ | refine jI ?_ | refine jJ ?_ | refine jK ?_ | refine jL ?_) | refine jM (by omega) ?_ | refine jN (by omega) ?_ | with_reducible refine jM rfl ?_ | refine jM (by assumption) ?_ | refine jN (by assumption) ?_ | refine jM (by decide) ?_ | refine jN (by decide) ?_) | refine jF (ptr_ok tblOk rfl rfl) ?_ | refine jO (fun _ => by kernel_rfl) ?_ | refine jF (by decide) ?_ | refine hS.ldG rfl ?_ | refine hS.ldnG rfl ?_)
          refine Chk.mk (by simp only [List.length_append]; omega) ?_
          repeat (first | refine SemW.run tblOk ?_ | refine jA (by omega) ?_ | refine jB (by omega) ?_ | refine jC (by omega) ?_ | refine jD (by omega) ?_ | refine jE rfl ?_ | refine jF (by omega) ?_ | (refine jG ?_; first | with_reducible (first | refine jH ?_ | refine jI ?_ | refine jJ ?_ | refine jK ?_ | refine jL ?_) | refine jM (by omega) ?_ | refine jN (by omega) ?_ | with_reducible refine jM rfl ?_ | refine jM (by assumption) ?_ | refine jN (by assumption) ?_ | refine jM (by decide) ?_ | refine jN (by decide) ?_) | refine jF (ptr_ok tblOk rfl rfl) ?_ | refine jO (fun _ => by kernel_rfl) ?_ | refine jF (by decide) ?_ | refine hS.ldG rfl ?_ | refine hS.ldnG rfl ?_)
          refine DrawG.alt tblOk 27 [] (by kernel_rfl) ⟨?_, trivial⟩
          refine Cl.mono (ints_spec (l := [r.n0, r.n1, r.n2, r.n3]) (hS.arr (b := q26) (by simp)) (all4 hr.ok.n0 hr.ok.n1 hr.ok.n2 hr.ok.n3).2 (by simp)) ?_
          rintro _ w27 ⟨rfl, hS'⟩
          refine Chk.mk hS' ?_
          have hS := hS.call0 hS'
          clear hS'
          refine DrawG.takes tblOk (by kernel_rfl) 1 [28] (by kernel_rfl) ?_
          repeat (first | refine SemW.run tblOk ?_ | refine jA (by omega) ?_ | refine jB (by omega) ?_ | refine jC (by omega) ?_ | refine jD (by omega) ?_ | refine jE rfl ?_ | refine jF (by omega) ?_ | (refine jG ?_; first | with_reducible (first | refine jH ?_ | refine jI ?_ | refine jJ ?_ | refine jK ?_ | refine jL ?_) | refine jM (by omega) ?_ | refine jN (by omega) ?_ | with_reducible refine jM rfl ?_ | refine jM (by assumption) ?_ | refine jN (by assumption) ?_ | refine jM (by decide) ?_ | refine jN (by decide) ?_) | refine jF (ptr_ok tblOk rfl rfl) ?_ | refine jO (fun _ => by kernel_rfl) ?_ | refine jF (by decide) ?_ | refine hS.ldG rfl ?_ | refine hS.ldnG rfl ?_)
          refine Chk.mk (by simp only [List.length_append]; omega) ?_
          repeat (first | refine SemW.run tblOk ?_ | refine jA (by omega) ?_ | refine jB (by omega) ?_ | refine jC (by omega) ?_ | refine jD (by omega) ?_ | refine jE rfl ?_ | refine jF (by omega) ?_ | (refine jG ?_; first | with_reducible (first | refine jH ?_ | refine jI ?_ | refine jJ ?_ | refine jK ?_ | refine jL ?_) | refine jM (by omega) ?_ | refine jN (by omega) ?_ | with_reducible refine jM rfl ?_ | refine jM (by assumption) ?_ | refine jN (by assumption) ?_ | refine jM (by decide) ?_ | refine jN (by decide) ?_) | refine jF (ptr_ok tblOk rfl rfl) ?_ | refine jO (fun _ => by kernel_rfl) ?_ | refine jF (by decide) ?_ | refine hS.ldG rfl ?_ | refine hS.ldnG rfl ?_)
          refine DrawG.takes tblOk (by kernel_rfl) 0 [29] (by kernel_rfl) ?_
          repeat (first | refine SemW.run tblOk ?_ | refine jA (by omega) ?_ | refine jB (by omega) ?_ | refine jC (by omega) ?_ | refine jD (by omega) ?_ | refine jE rfl ?_ | refine jF (by omega) ?_ | (refine jG ?_; first | with_reducible (first | refine jH ?_ | refine jI ?_ | refine jJ ?_ | refine jK ?_ | refine jL ?_) | refine jM (by omega) ?_ | refine jN (by omega) ?_ | with_reducible refine jM rfl ?_ | refine jM (by assumption) ?_ | refine jN (by assumption) ?_ | refine jM (by decide) ?_ | refine jN (by decide) ?_) | refine jF (ptr_ok tblOk rfl rfl) ?_ | refine jO (fun _ => by kernel_rfl) ?_ | refine jF (by decide) ?_ | refine hS.ldG rfl ?_ | refine hS.ldnG rfl ?_)
          refine DrawG.done (by kernel_rfl) ?_
          exact ⟨(), ⟨rfl, rfl, trivial⟩, hS.sub (by simp)⟩
      · refine hS.alG ?_
        intro q26 w26 hG hS
        refine Chk.mk hG ?_
        refine DrawG.alt tblOk 3 [] (by kernel_rfl) ⟨?_, trivial⟩
        refine Cl.mono (ints_spec (l := [r.code]) (hS.arr (b := q2) (by simp)) (all1 hr.ok.code).2 (by simp)) ?_
        rintro _ w3 ⟨rfl, hS'⟩
        refine Chk.mk hS' ?_
        have hS := hS.call0 hS'
        clear hS'
        refine DrawG.alt tblOk 8 [] (by kernel_rfl) ⟨?_, trivial⟩
        refine Cl.mono (NumE_spec r.ids.length (by omega)) ?_
        rintro _ w8 ⟨rfl, hS'⟩
        refine Chk.mk hS' ?_
        have hS := hS.call0 hS'
        clear hS'
        refine DrawG.takes tblOk (by kernel_rfl) 5 [9] (by kernel_rfl) ?_
        repeat (first | refine SemW.run tblOk ?_ | refine jA (by omega) ?_ | refine jB (by omega) ?_ | refine jC (by omega) ?_ | refine jD (by omega) ?_ | refine jE rfl ?_ | refine jF (by omega) ?_ | (refine jG ?_; first | with_reducible (first | refine jH ?_ | refine jI ?_ | refine jJ ?_ | refine jK ?_ | refine jL ?_) | refine jM (by omega) ?_ | refine jN (by omega) ?_ | with_reducible refine jM rfl ?_ | refine jM (by assumption) ?_ | refine jN (by assumption) ?_ | refine jM (by decide) ?_ | refine jN (by decide) ?_) | refine jF (ptr_ok tblOk rfl rfl) ?_ | refine jO (fun _ => by kernel_rfl) ?_ | refine jF (by decide) ?_ | refine hS.ldG rfl ?_ | refine hS.ldnG rfl ?_)
        refine DrawG.alt tblOk 12 [] (by kernel_rfl) ⟨?_, trivial⟩
        refine Cl.mono (ints_spec (hr.keep hS.nil).ids hr.ok.ids hr.ni) ?_
        rintro _ w12 ⟨rfl, hS'⟩
        refine Chk.mk hS' ?_
        have hS := hS.call0 hS'
        clear hS'
        refine DrawG.takes tblOk (by kernel_rfl) 3 [13] (by kernel_rfl) ?_
        repeat (first | refine SemW.run tblOk ?_ | refine jA (by omega) ?_ | refine jB (by omega) ?_ | refine jC (by omega) ?_ | refine jD (by omega) ?_ | refine jE rfl ?_ | refine jF (by omega) ?_ | (refine jG ?_; first | with_reducible (first | refine jH ?_ | refine jI ?_ | refine jJ ?_ | refine jK ?_ | refine jL ?_) | refine jM (by omega) ?_ | refine jN (by omega) ?_ | with_reducible refine jM rfl ?_ | refine jM (by assumption) ?_ | refine jN (by assumption) ?_ | refine jM (by decide) ?_ | refine jN (by decide) ?_) | refine jF (ptr_ok tblOk rfl rfl) ?_ | refine jO (fun _ => by kernel_rfl) ?_ | refine jF (by decide) ?_ | refine hS.ldG rfl ?_ | refine hS.ldnG rfl ?_)
        refine Chk.mk (by simp only [List.length_append]; omega) ?_
        repeat (first | refine SemW.run tblOk ?_ | refine jA (by omega) ?_ | refine jB (by omega) ?_ | refine jC (by omega) ?_ | refine jD (by omega) ?_ | refine jE rfl ?_ | refine jF (by omega) ?_ | (refine jG ?_; first | with_reducible (first | refine jH ?_ | refine jI ?_ | refine jJ ?_ | refine jK ?_ | refine jL ?_) | refine jM (by omega) ?_ | refine jN (by omega) ?_ | with_reducible refine jM rfl ?_ | refine jM (by assumption) ?_ | refine jN (by assumption) ?_ | refine jM (by decide) ?_ | refine jN (by decide) ?_) | refine jF (ptr_ok tblOk rfl rfl) ?_ | refine jO (fun _ => by kernel_rfl) ?_ | refine jF (by decide) ?_ | refine hS.ldG rfl ?_ | refine hS.ldnG rfl ?_)
        refine DrawG.alt tblOk 27 [] (by kernel_rfl) ⟨?_, trivial⟩
        refine Cl.mono (ints_spec (l := [r.n0, r.n1, r.n2, r.n3]) (hS.arr (b := q26) (by simp)) (all4 hr.ok.n0 hr.ok.n1 hr.ok.n2 hr.ok.n3).2 (by simp)) ?_
        rintro _ w27 ⟨rfl, hS'⟩
        refine Chk.mk hS' ?_
        have hS := hS.call0 hS'
        clear hS'
        refine DrawG.takes tblOk (by kernel_rfl) 1 [28] (by kernel_rfl) ?_
        repeat (first | refine SemW.run tblOk ?_ | refine jA (by omega) ?_ | refine jB (by omega) ?_ | refine jC (by omega) ?_ | refine jD (by omega) ?_ | refine jE rfl ?_ | refine jF (by omega) ?_ | (refine jG ?_; first | with_reducible (first | refine jH ?_ | refine jI ?_ | refine jJ ?_ | refine jK ?_ | refine jL ?_) | refine jM (by omega) ?_ | refine jN (by omega) ?_ | with_reducible refine jM rfl ?_ | refine jM (by assumption) ?_ | refine jN (by assumption) ?_ | refine jM (by decide) ?_ | refine jN (by decide) ?_) | refine jF (ptr_ok tblOk rfl rfl) ?_ | refine jO (fun _ => by kernel_rfl) ?_ | refine jF (by decide) ?_ | refine hS.ldG rfl ?_ | refine hS.ldnG rfl ?_)
        refine Chk.mk (by simp only [List.length_append]; omega) ?_
        repeat (first | refine SemW.run tblOk ?_ | refine jA (by omega) ?_ | refine jB (by omega) ?_ | refine jC (by omega) ?_ | refine jD (by omega) ?_ | refine jE rfl ?_ | refine jF (by omega) ?_ | (refine jG ?_; first | with_reducible (first | refine jH ?_ | refine jI ?_ | refine jJ ?_ | refine jK ?_ | refine jL ?_) | refine jM (by omega) ?_ | refine jN (by omega) ?_ | with_reducible refine jM rfl ?_ | refine jM (by assumption) ?_ | refine jN (by assumption) ?_ | refine jM (by decide) ?_ | refine jN (by decide) ?_) | refine jF (ptr_ok tblOk rfl rfl) ?_ | refine jO (fun _ => by kernel_rfl) ?_ | refine jF (by decide) ?_ | refine hS.ldG rfl ?_ | refine hS.ldnG rfl ?_)
        refine DrawG.takes tblOk (by kernel_rfl) 0 [29] (by kernel_rfl) ?_
        repeat (first | refine SemW.run tblOk ?_ | refine jA (by omega) ?_ | refine jB (by omega) ?_ | refine jC (by omega) ?_ | refine jD (by omega) ?_ | refine jE rfl ?_ | refine jF (by omega) ?_ | (refine jG ?_; first | with_reducible (first | refine jH ?_ | refine jI ?_ | refine jJ ?_ | refine jK ?_ | refine jL ?_) | refine jM (by omega) ?_ | refine jN (by omega) ?_ | with_reducible refine jM rfl ?_ | refine jM (by assumption) ?_ | refine jN (by assumption) ?_ | refine jM (by decide) ?_ | refine jN (by decide) ?_) | refine jF (ptr_ok tblOk rfl rfl) ?_ | refine jO (fun _ => by kernel_rfl) ?_ | refine jF (by decide) ?_ | refine hS.ldG rfl ?_ | refine hS.ldnG rfl ?_)
        refine DrawG.done (by kernel_rfl) ?_
        exact ⟨(), ⟨rfl, rfl, trivial⟩, hS.sub (by simp)⟩
    · refine hS.alG ?_
      intro q26 w26 hG hS
      refine Chk.mk hG ?_
      refine DrawG.alt tblOk 2 [] (by kernel_rfl) ⟨?_, trivial⟩
      refine hS.alG ?_
      intro q2 w2 hG hS
      refine Chk.mk hG ?_
      refine DrawG.alt tblOk 3 [] (by kernel_rfl) ⟨?_, trivial⟩
      refine Cl.mono (ints_spec (l := [r.code]) (hS.arr (b := q2) (by simp)) (all1 hr.ok.code).2 (by simp)) ?_
      rintro _ w3 ⟨rfl, hS'⟩
      refine Chk.mk hS' ?_
      have hS := hS.call0 hS'
      clear hS'
      refine DrawG.alt tblOk 8 [] (by kernel_rfl) ⟨?_, trivial⟩
      refine Cl.mono (NumE_spec r.ids.length (by omega)) ?_
      rintro _ w8 ⟨rfl, hS'⟩
      refine Chk.mk hS' ?_
      have hS := hS.call0 hS'
      clear hS'
      refine DrawG.takes tblOk (by kernel_rfl) 5 [9] (by kernel_rfl) ?_
      repeat (first | refine SemW.run tblOk ?_ | refine jA (by omega) ?_ | refine jB (by omega) ?_ | refine jC (by omega) ?_ | refine jD (by omega) ?_ | refine jE rfl ?_ | refine jF (by omega) ?_ | (refine jG ?_; first | with_reducible (first | refine jH ?_ | refine jI ?_ | refine jJ ?_ | refine jK ?_ | refine jL ?_) | refine jM (by omega) ?_ | refine jN (by omega) ?_ | with_reducible refine jM rfl ?_ | refine jM (by assumption) ?_ | refine jN (by assumption) ?_ | refine jM (by decide) ?_ | refine jN (by decide) ?_) | refine jF (ptr_ok tblOk rfl rfl) ?_ | refine jO (fun _ => by kernel_rfl) ?_ | refine jF (by decide) ?_ | refine hS.ldG rfl ?_ | refine hS.ldnG rfl ?_)
      refine DrawG.alt tblOk 12 [] (by kernel_rfl) ⟨?_, trivial⟩
      refine Cl.mono (ints_spec (hr.keep hS.nil).ids hr.ok.ids hr.ni) ?_
      rintro _ w12 ⟨rfl, hS'⟩
      refine Chk.mk hS' ?_
      have hS := hS.call0 hS'
      clear hS'
      refine DrawG.takes tblOk (by kernel_rfl) 3 [13] (by kernel_rfl) ?_
      repeat (first | refine SemW.run tblOk ?_ | refine jA (by omega) ?_ | refine jB (by omega) ?_ | refine jC (by omega) ?_ | refine jD (by omega) ?_ | refine jE rfl ?_ | refine jF (by omega) ?_ | (refine jG ?_; first | with_reducible (first | refine jH ?_ | refine jI ?_ | refine jJ ?_ | refine jK ?_ | refine jL ?_) | refine jM (by omega) ?_ | refine jN (by omega) ?_ | with_reducible refine jM rfl ?_ | refine jM (by assumption) ?_ | refine jN (by assumption) ?_ | refine jM (by decide) ?_ | refine jN (by decide) ?_) | refine jF (ptr_ok tblOk rfl rfl) ?_ | refine jO (fun _ => by kernel_rfl) ?_ | refine jF (by decide) ?_ | refine hS.ldG rfl ?_ | refine hS.ldnG rfl ?_)
      refine Chk.mk (by simp only [List.length_append]; omega) ?_
      repeat (first | refine SemW.run tblOk ?_ | refine jA (by omega) ?_ | refine jB (by omega) ?_ | refine jC (by omega) ?_ | refine jD (by omega) ?_ | refine jE rfl ?_ | refine jF (by omega) ?_ | (refine jG ?_; first | with_reducible (first | refine jH ?_ | refine jI ?_ | refine jJ ?_ | refine jK ?_ | refine jL ?_) | refine jM (by omega) ?_ | refine jN (by omega) ?_ | with_reducible refine jM rfl ?_ | refine jM (by assumption) ?_ | refine jN (by assumption) ?_ | refine jM (by decide) ?_ | refine jN (by decide) ?_) | refine jF (ptr_ok tblOk rfl rfl) ?_ | refine jO (fun _ => by kernel_rfl) ?_ | refine jF (by decide) ?_ | refine hS.ldG rfl ?_ | refine hS.ldnG rfl ?_)
      refine DrawG.alt tblOk 27 [] (by kernel_rfl) ⟨?_, trivial⟩
      refine Cl.mono (ints_spec (l := [r.n0, r.n1, r.n2, r.n3]) (hS.arr (b := q26) (by simp)) (all4 hr.ok.n0 hr.ok.n1 hr.ok.n2 hr.ok.n3).2 (by simp)) ?_
      rintro _ w27 ⟨rfl, hS'⟩
      refine Chk.mk hS' ?_
      have hS := hS.call0 hS'
      clear hS'
      refine DrawG.takes tblOk (by kernel_rfl) 1 [28] (by kernel_rfl) ?_
      repeat (first | refine SemW.run tblOk ?_ | refine jA (by omega) ?_ | refine jB (by omega) ?_ | refine jC (by omega) ?_ | refine jD (by omega) ?_ | refine jE rfl ?_ | refine jF (by omega) ?_ | (refine jG ?_; first | with_reducible (first | refine jH ?_ | refine jI ?_ | refine jJ ?_ | refine jK ?_ | refine jL ?_) | refine jM (by omega) ?_ | refine jN (by omega) ?_ | with_reducible refine jM rfl ?_ | refine jM (by assumption) ?_ | refine jN (by assumption) ?_ | refine jM (by decide) ?_ | refine jN (by decide) ?_) | refine jF (ptr_ok tblOk rfl rfl) ?_ | refine jO (fun _ => by kernel_rfl) ?_ | refine jF (by decide) ?_ | refine hS.ldG rfl ?_ | refine hS.ldnG rfl ?_)
      refine Chk.mk (by simp only [List.length_append]; omega) ?_
      repeat (first | refine SemW.run tblOk ?_ | refine jA (by omega) ?_ | refine jB (by omega) ?_ | refine jC (by omega) ?_ | refine jD (by omega) ?_ | refine jE rfl ?_ | refine jF (by omega) ?_ | (refine jG ?_; first | with_reducible (first | refine jH ?_ | refine jI ?_ | refine jJ ?_ | refine jK ?_ | refine jL ?_) | refine jM (by omega) ?_ | refine jN (by omega) ?_ | with_reducible refine jM rfl ?_ | refine jM (by assumption) ?_ | refine jN (by assumption) ?_ | refine jM (by decide) ?_ | refine jN (by decide) ?_) | refine jF (ptr_ok tblOk rfl rfl) ?_ | refine jO (fun _ => by kernel_rfl) ?_ | refine jF (by decide) ?_ | refine hS.ldG rfl ?_ | refine hS.ldnG rfl ?_)
      refine DrawG.takes tblOk (by kernel_rfl) 0 [29] (by kernel_rfl) ?_
      repeat (first | refine SemW.run tblOk ?_ | refine jA (by omega) ?_ | refine jB (by omega) ?_ | refine jC (by omega) ?_ | refine jD (by omega) ?_ | refine jE rfl ?_ | refine jF (by omega) ?_ | (refine jG ?_; first | with_reducible (first | refine jH ?_ | refine jI ?_ | refine jJ ?_ | refine jK ?_ | refine jL ?_) | refine jM (by omega) ?_ | refine jN (by omega) ?_ | with_reducible refine jM rfl ?_ | refine jM (by assumption) ?_ | refine jN (by assumption) ?_ | refine jM (by decide) ?_ | refine jN (by decide) ?_) | refine jF (ptr_ok tblOk rfl rfl) ?_ | refine jO (fun _ => by kernel_rfl) ?_ | refine jF (by decide) ?_ | refine hS.ldG rfl ?_ | refine hS.ldnG rfl ?_)
      refine DrawG.done (by kernel_rfl) ?_
      exact ⟨(), ⟨rfl, rfl, trivial⟩, hS.sub (by simp)⟩
  clear hS
  rintro _ w10 hS
  refine SemW.run tblOk ?_
  refine StopW.meet (fun _ : Unit => [(4, Str (replyB r))]) (fun _ w' => St w [] [] w') ?_ ?_
  · rw [replyB_parts]
    refine SemW.drawR tblOk mixed [] ?_
    have hS := hS.drew
    refine DrawG.takes tblOk (by kernel_rfl) 11 [0, 1, 2, 5, 6, 7, 11, 12, 15, 16] (by kernel_rfl) ?_
    repeat (first | refine SemW.run tblOk ?_ | refine jA (by omega) ?_ | refine jB (by omega) ?_ | refine jC (by omega) ?_ | refine jD (by omega) ?_ | refine jE rfl ?_ | refine jF (by omega) ?_ | (refine jG ?_; first | with_reducible (first | refine jH ?_ | refine jI ?_ | refine jJ ?_ | refine jK ?_ | refine jL ?_) | refine jM (by omega) ?_ | refine jN (by omega) ?_ | with_reducible refine jM rfl ?_ | refine jM (by assumption) ?_ | refine jN (by assumption) ?_ | refine jM (by decide) ?_ | refine jN (by decide) ?_) | refine jF (ptr_ok tblOk rfl rfl) ?_ | refine jO (fun _ => by kernel_rfl) ?_ | refine jF (by decide) ?_ | refine hS.ldG rfl ?_ | refine hS.ldnG rfl ?_)
    refine DrawG.alt tblOk 3 [8] (by kernel_rfl) ⟨?_, ?_, trivial⟩
    · refine Cl.mono (bit23_spec r.over 1) ?_
      rintro _ w3 ⟨rfl, hS'⟩
      refine Chk.mk hS' ?_
      have hS := hS.call0 hS'
      clear hS'
      refine DrawG.alt tblOk 4 [8] (by kernel_rfl) ⟨?_, ?_, trivial⟩
      · refine Cl.mono (NumE_spec (bitN r.over 1) (by omega)) ?_
        rintro _ w4 ⟨rfl, hS'⟩
        refine Chk.mk hS' ?_
        have hS := hS.call0 hS'
        clear hS'
        refine DrawG.alt tblOk 8 [] (by kernel_rfl) ⟨?_, trivial⟩
        refine hS.alG ?_
        intro q8 w8 hG hS
        refine Chk.mk hG ?_
        refine DrawG.alt tblOk 9 [] (by kernel_rfl) ⟨?_, trivial⟩
        refine Cl.mono (ints_spec (l := [r.pax.id]) (hS.arr (b := q8) (by simp)) (all1 hr.ok.pax.id).2 (by simp)) ?_
        rintro _ w9 ⟨rfl, hS'⟩
        refine Chk.mk hS' ?_
        have hS := hS.call0 hS'
        clear hS'
        refine DrawG.takes tblOk (by kernel_rfl) 6 [10] (by kernel_rfl) ?_
        repeat (first | refine SemW.run tblOk ?_ | refine jA (by omega) ?_ | refine jB (by omega) ?_ | refine jC (by omega) ?_ | refine jD (by omega) ?_ | refine jE rfl ?_ | refine jF (by omega) ?_ | (refine jG ?_; first | with_reducible (first | refine jH ?_ | refine jI ?_ | refine jJ ?_ | refine jK ?_ | refine jL ?_) | refine jM (by omega) ?_ | refine jN (by omega) ?_ | with_reducible refine jM rfl ?_ | refine jM (by assumption) ?_ | refine jN (by assumption) ?_ | refine jM (by decide) ?_ | refine jN (by decide) ?_) | refine jF (ptr_ok tblOk rfl rfl) ?_ | refine jO (fun _ => by kernel_rfl) ?_ | refine jF (by decide) ?_ | refine hS.ldG rfl ?_ | refine hS.ldnG rfl ?_)
        refine DrawG.alt tblOk 13 [] (by kernel_rfl) ⟨?_, trivial⟩
        refine Cl.mono (pax22_spec r.pax hr.ok.pax) ?_
        rintro _ w13 ⟨rfl, hS'⟩
        refine Chk.mk hS' ?_
        have hS := hS.call0 hS'
        clear hS'
        refine DrawG.takes tblOk (by kernel_rfl) 4 [14] (by kernel_rfl) ?_
        repeat (first | refine SemW.run tblOk ?_ | refine jA (by omega) ?_ | refine jB (by omega) ?_ | refine jC (by omega) ?_ | refine jD (by omega) ?_ | refine jE rfl ?_ | refine jF (by omega) ?_ | (refine jG ?_; first | with_reducible (first | refine jH ?_ | refine jI ?_ | refine jJ ?_ | refine jK ?_ | refine jL ?_) | refine jM (by omega) ?_ | refine jN (by omega) ?_ | with_reducible refine jM rfl ?_ | refine jM (by assumption) ?_ | refine jN (by assumption) ?_ | refine jM (by decide) ?_ | refine jN (by decide) ?_) | refine jF (ptr_ok tblOk rfl rfl) ?_ | refine jO (fun _ => by kernel_rfl) ?_ | refine jF (by decide) ?_ | refine hS.ldG rfl ?_ | refine hS.ldnG rfl ?_)
        refine Chk.mk (by simp only [List.length_append]; omega) ?_
        repeat (first | refine SemW.run tblOk ?_ | refine jA (by omega) ?_ | refine jB (by omega) ?_ | refine jC (by omega) ?_ | refine jD (by omega) ?_ | refine jE rfl ?_ | refine jF (by omega) ?_ | (refine jG ?_; first | with_reducible (first | refine jH ?_ | refine jI ?_ | refine jJ ?_ | refine jK ?_ | refine jL ?_) | refine jM (by omega) ?_ | refine jN (by omega) ?_ | with_reducible refine jM rfl ?_ | refine jM (by assumption) ?_ | refine jN (by assumption) ?_ | refine jM (by decide) ?_ | refine jN (by decide) ?_) | refine jF (ptr_ok tblOk rfl rfl) ?_ | refine jO (fun _ => by kernel_rfl) ?_ | refine jF (by decide) ?_ | refine hS.ldG rfl ?_ | refine hS.ldnG rfl ?_)
        refine DrawG.alt tblOk 17 [] (by kernel_rfl) ⟨?_, trivial⟩
        refine Cl.mono (TextE_spec r.text (by omega)) ?_
        rintro _ w17 ⟨rfl, hS'⟩
        refine Chk.mk hS' ?_
        have hS := hS.call0 hS'
        clear hS'
        refine DrawG.takes tblOk (by kernel_rfl) 2 [18] (by kernel_rfl) ?_
        repeat (first | refine SemW.run tblOk ?_ | refine jA (by omega) ?_ | refine jB (by omega) ?_ | refine jC (by omega) ?_ | refine jD (by omega) ?_ | refine jE rfl ?_ | refine jF (by omega) ?_ | (refine jG ?_; first | with_reducible (first | refine jH ?_ | refine jI ?_ | refine jJ ?_ | refine jK ?_ | refine jL ?_) | refine jM (by omega) ?_ | refine jN (by omega) ?_ | with_reducible refine jM rfl ?_ | refine jM (by assumption) ?_ | refine jN (by assumption) ?_ | refine jM (by decide) ?_ | refine jN (by decide) ?_) | refine jF (ptr_ok tblOk rfl rfl) ?_ | refine jO (fun _ => by kernel_rfl) ?_ | refine jF (by decide) ?_ | refine hS.ldG rfl ?_ | refine hS.ldnG rfl ?_)
        refine Chk.mk (by simp only [List.length_append]; omega) ?_
        repeat (first | refine SemW.run tblOk ?_ | refine jA (by omega) ?_ | refine jB (by omega) ?_ | refine jC (by omega) ?_ | refine jD (by omega) ?_ | refine jE rfl ?_ | refine jF (by omega) ?_ | (refine jG ?_; first | with_reducible (first | refine jH ?_ | refine jI ?_ | refine jJ ?_ | refine jK ?_ | refine jL ?_) | refine jM (by omega) ?_ | refine jN (by omega) ?_ | with_reducible refine jM rfl ?_ | refine jM (by assumption) ?_ | refine jN (by assumption) ?_ | refine jM (by decide) ?_ | refine jN (by decide) ?_) | refine jF (ptr_ok tblOk rfl rfl) ?_ | refine jO (fun _ => by kernel_rfl) ?_ | refine jF (by decide) ?_ | refine hS.ldG rfl ?_ | refine hS.ldnG rfl ?_)
        refine DrawG.takes tblOk (by kernel_rfl) 1 [19] (by kernel_rfl) ?_
        repeat (first | refine SemW.run tblOk ?_ | refine jA (by omega) ?_ | refine jB (by omega) ?_ | refine jC (by omega) ?_ | refine jD (by omega) ?_ | refine jE rfl ?_ | refine jF (by omega) ?_ | (refine jG ?_; first | with_reducible (first | refine jH ?_ | refine jI ?_ | refine jJ ?_ | refine jK ?_ | refine jL ?_) | refine jM (by omega) ?_ | refine jN (by omega) ?_ | with_reducible refine jM rfl ?_ | refine jM (by assumption) ?_ | refine jN (by assumption) ?_ | refine jM (by decide) ?_ | refine jN (by decide) ?_) | refine jF (ptr_ok tblOk rfl rfl) ?_ | refine jO (fun _ => by kernel_rfl) ?_ | refine jF (by decide) ?_ | refine hS.ldG rfl ?_ | refine hS.ldnG rfl ?_)
        refine Chk.mk (by simp only [List.length_append]; omega) ?_
        repeat (first | refine SemW.run tblOk ?_ | refine jA (by omega) ?_ | refine jB (by omega) ?_ | refine jC (by omega) ?_ | refine jD (by omega) ?_ | refine jE rfl ?_ | refine jF (by omega) ?_ | (refine jG ?_; first | with_reducible (first | refine jH ?_ | refine jI ?_ | refine jJ ?_ | refine jK ?_ | refine jL ?_) | refine jM (by omega) ?_ | refine jN (by omega) ?_ | with_reducible refine jM rfl ?_ | refine jM (by assumption) ?_ | refine jN (by assumption) ?_ | refine jM (by decide) ?_ | refine jN (by decide) ?_) | refine jF (ptr_ok tblOk rfl rfl) ?_ | refine jO (fun _ => by kernel_rfl) ?_ | refine jF (by decide) ?_ | refine hS.ldG rfl ?_ | refine hS.ldnG rfl ?_)
        refine DrawG.takes tblOk (by kernel_rfl) 0 [20] (by kernel_rfl) ?_
        repeat (first | refine SemW.run tblOk ?_ | refine jA (by omega) ?_ | refine jB (by omega) ?_ | refine jC (by omega) ?_ | refine jD (by omega) ?_ | refine jE rfl ?_ | refine jF (by omega) ?_ | (refine jG ?_; first | with_reducible (first | refine jH ?_ | refine jI ?_ | refine jJ ?_ | refine jK ?_ | refine jL ?_) | refine jM (by omega) ?_ | refine jN (by omega) ?_ | with_reducible refine jM rfl ?_ | refine jM (by assumption) ?_ | refine jN (by assumption) ?_ | refine jM (by decide) ?_ | refine jN (by decide) ?_) | refine jF (ptr_ok tblOk rfl rfl) ?_ | refine jO (fun _ => by kernel_rfl) ?_ | refine jF (by decide) ?_ | refine hS.ldG rfl ?_ | refine hS.ldnG rfl ?_)
        refine DrawG.done (by kernel_rfl) ?_
        exact ⟨(), ⟨rfl, trivial⟩, hS.nil⟩
      · refine hS.alG ?_
        intro q8 w8 hG hS
        refine Chk.mk hG ?_
        refine DrawG.alt tblOk 4 [] (by kernel_rfl) ⟨?_, trivial⟩
        refine Cl.mono (NumE_spec (bitN r.over 1) (by omega)) ?_
        rintro _ w4 ⟨rfl, hS'⟩
        refine Chk.mk hS' ?_
        have hS := hS.call0 hS'
        clear hS'
        refine DrawG.alt tblOk 9 [] (by kernel_rfl) ⟨?_, trivial⟩
        refine Cl.mono (ints_spec (l := [r.pax.id]) (hS.arr (b := q8) (by simp)) (all1 hr.ok.pax.id).2 (by simp)) ?_
        rintro _ w9 ⟨rfl, hS'⟩
        refine Chk.mk hS' ?_
        have hS := hS.call0 hS'
        clear hS'
        refine DrawG.takes tblOk (by kernel_rfl) 6 [10] (by kernel_rfl) ?_
        repeat (first | refine SemW.run tblOk ?_ | refine jA (by omega) ?_ | refine jB (by omega) ?_ | refine jC (by omega) ?_ | refine jD (by omega) ?_ | refine jE rfl ?_ | refine jF (by omega) ?_ | (refine jG ?_; first | with_reducible (first | refine jH ?_ | refine jI ?_ | refine jJ ?_ | refine jK ?_ | refine jL ?_) | refine jM (by omega) ?_ | refine jN (by omega) ?_ | with_reducible refine jM rfl ?_ | refine jM (by assumption) ?_ | refine jN (by assumption) ?_ | refine jM (by decide) ?_ | refine jN (by decide) ?_) | refine jF (ptr_ok tblOk rfl rfl) ?_ | refine jO (fun _ => by kernel_rfl) ?_ | refine jF (by decide) ?_ | refine hS.ldG rfl ?_ | refine hS.ldnG rfl ?_)
        refine DrawG.alt tblOk 13 [] (by kernel_rfl) ⟨?_, trivial⟩
        refine Cl.mono (pax22_spec r.pax hr.ok.pax) ?_
        rintro _ w13 ⟨rfl, hS'⟩
        refine Chk.mk hS' ?_
        have hS := hS.call0 hS'
        clear hS'
        refine DrawG.takes tblOk (by kernel_rfl) 4 [14] (by kernel_rfl) ?_
        repeat (first | refine SemW.run tblOk ?_ | refine jA (by omega) ?_ | refine jB (by omega) ?_ | refine jC (by omega) ?_ | refine jD (by omega) ?_ | refine jE rfl ?_ | refine jF (by omega) ?_ | (refine jG ?_; first | with_reducible (first | refine jH ?_ | refine jI ?_ | refine jJ ?_ | refine jK ?_ | refine jL ?_) | refine jM (by omega) ?_ | refine jN (by omega) ?_ | with_reducible refine jM rfl ?_ | refine jM (by assumption) ?_ | refine jN (by assumption) ?_ | refine jM (by decide) ?_ | refine jN (by decide) ?_) | refine jF (ptr_ok tblOk rfl rfl) ?_ | refine jO (fun _ => by kernel_rfl) ?_ | refine jF (by decide) ?_ | refine hS.ldG rfl ?_ | refine hS.ldnG rfl ?_)
        refine Chk.mk (by simp only [List.length_append]; omega) ?_
        repeat (first | refine SemW.run tblOk ?_ | refine jA (by omega) ?_ | refine jB (by omega) ?_ | refine jC (by omega) ?_ | refine jD (by omega) ?_ | refine jE rfl ?_ | refine jF (by omega) ?_ | (refine jG ?_; first | with_reducible (first | refine jH ?_ | refine jI ?_ | refine jJ ?_ | refine jK ?_ | refine jL ?_) | refine jM (by omega) ?_ | refine jN (by omega) ?_ | with_reducible refine jM rfl ?_ | refine jM (by assumption) ?_ | refine jN (by assumption) ?_ | refine jM (by decide) ?_ | refine jN (by decide) ?_) | refine jF (ptr_ok tblOk rfl rfl) ?_ | refine jO (fun _ => by kernel_rfl) ?_ | refine jF (by decide) ?_ | refine hS.ldG rfl ?_ | refine hS.ldnG rfl ?_)
        refine DrawG.alt tblOk 17 [] (by kernel_rfl) ⟨?_, trivial⟩
        refine Cl.mono (TextE_spec r.text (by omega)) ?_
        rintro _ w17 ⟨rfl, hS'⟩
        refine Chk.mk hS' ?_
        have hS := hS.call0 hS'
        clear hS'
        refine DrawG.takes tblOk (by kernel_rfl) 2 [18] (by kernel_rfl) ?_
        repeat (first | refine SemW.run tblOk ?_ | refine jA (by omega) ?_ | refine jB (by omega) ?_ | refine jC (by omega) ?_ | refine jD (by omega) ?_ | refine jE rfl ?_ | refine jF (by omega) ?_ | (refine jG ?_; first | with_reducible (first | refine jH ?_ | refine jI ?_ | refine jJ ?_ | refine jK ?_ | refine jL ?_) | refine jM (by omega) ?_ | refine jN (by omega) ?_ | with_reducible refine jM rfl ?_ | refine jM (by assumption) ?_ | refine jN (by assumption) ?_ | refine jM (by decide) ?_ | refine jN (by decide) ?_) | refine jF (ptr_ok tblOk rfl rfl) ?_ | refine jO (fun _ => by kernel_rfl) ?_ | refine jF (by decide) ?_ | refine hS.ldG rfl ?_ | refine hS.ldnG rfl ?_)
        refine Chk.mk (by simp only [List.length_append]; omega) ?_
        repeat (first | refine SemW.run tblOk ?_ | refine jA (by omega) ?_ | refine jB (by omega) ?_ | refine jC (by omega) ?_ | refine jD (by omega) ?_ | refine jE rfl ?_ | refine jF (by omega) ?_ | (refine jG ?_; first | with_reducible (first | refine jH ?_ | refine jI ?_ | refine jJ ?_ | refine jK ?_ | refine jL ?_) | refine jM (by omega) ?_ | refine jN (by omega) ?_ | with_reducible refine jM rfl ?_ | refine jM (by assumption) ?_ | refine jN (by assumption) ?_ | refine jM (by decide) ?_ | refine jN (by decide) ?_) | refine jF (ptr_ok tblOk rfl rfl) ?_ | refine jO (fun _ => by kernel_rfl) ?_ | refine jF (by decide) ?_ | refine hS.ldG rfl ?_ | refine hS.ldnG rfl ?_)
        refine DrawG.takes tblOk (by kernel_rfl) 1 [19] (by kernel_rfl) ?_
        repeat (first | refine SemW.run tblOk ?_ | refine jA (by omega) ?_ | refine jB (by omega) ?_ | refine jC (by omega) ?_ | refine jD (by omega) ?_ | refine jE rfl ?_ | refine jF (by omega) ?_ | (refine jG ?_; first | with_reducible (first | refine jH ?_ | refine jI ?_ | refine jJ ?_ | refine jK ?_ | refine jL ?_) | refine jM (by omega) ?_ | refine jN (by omega) ?_ | with_reducible refine jM rfl ?_ | refine jM (by assumption) ?_ | refine jN (by assumption) ?_ | refine jM (by decide) ?_ | refine jN (by decide) ?_) | refine jF (ptr_ok tblOk rfl rfl) ?_ | refine jO (fun _ => by kernel_rfl) ?_ | refine jF (by decide) ?_ | refine hS.ldG rfl ?_ | refine hS.ldnG rfl ?_)
        refine Chk.mk (by simp only [List.length_append]; omega) ?_
        repeat (first | refine SemW.run tblOk ?_ | refine jA (by omega) ?_ | refine jB (by omega) ?_ | refine jC (by omega) ?_ | refine jD (by omega) ?_ | refine jE rfl ?_ | refine jF (by omega) ?_ | (refine jG ?_; first | with_reducible (first | refine jH ?_ | refine jI ?_ | refine jJ ?_ | refine jK ?_ | refine jL ?_) | refine jM (by omega) ?_ | refine jN (by omega) ?_ | with_reducible refine jM rfl ?_ | refine jM (by assumption) ?_ | refine jN (by assumption) ?_ | refine jM (by decide) ?_ | refine jN (by decide) ?_) | refine jF (ptr_ok tblOk rfl rfl) ?_ | refine jO (fun _ => by kernel_rfl) ?_ | refine jF (by decide) ?_ | refine hS.ldG rfl ?_ | refine hS.ldnG rfl ?_)
        refine DrawG.takes tblOk (by kernel_rfl) 0 [20] (by kernel_rfl) ?_
        repeat (first | refine SemW.run tblOk ?_ | refine jA (by omega) ?_ | refine jB (by omega) ?_ | refine jC (by omega) ?_ | refine jD (by omega) ?_ | refine jE rfl ?_ | refine jF (by omega) ?_ | (refine jG ?_; first | with_reducible (first | refine jH ?_ | refine jI ?_ | refine jJ ?_ | refine jK ?_ | refine jL ?_) | refine jM (by omega) ?_ | refine jN (by omega) ?_ | with_reducible refine jM rfl ?_ | refine jM (by assumption) ?_ | refine jN (by assumption) ?_ | refine jM (by decide) ?_ | refine jN (by decide) ?_) | refine jF (ptr_ok tblOk rfl rfl) ?_ | refine jO (fun _ => by kernel_rfl) ?_ | refine jF (by decide) ?_ | refine hS.ldG rfl ?_ | refine hS.ldnG rfl ?_)
        refine DrawG.done (by kernel_rfl) ?_
        exact ⟨(), ⟨rfl, trivial⟩, hS.nil⟩
    · refine hS.alG ?_
      intro q8 w8 hG hS
      refine Chk.mk hG ?_
      refine DrawG.alt tblOk 3 [] (by kernel_rfl) ⟨?_, trivial⟩
      refine Cl.mono (bit23_spec r.over 1) ?_
      rintro _ w3 ⟨rfl, hS'⟩
      refine Chk.mk hS' ?_
      have hS := hS.call0 hS'
      clear hS'
      refine DrawG.alt tblOk 4 [] (by kernel_rfl) ⟨?_, trivial⟩
      refine Cl.mono (NumE_spec (bitN r.over 1) (by omega)) ?_
      rintro _ w4 ⟨rfl, hS'⟩
      refine Chk.mk hS' ?_
      have hS := hS.call0 hS'
      clear hS'
      refine DrawG.alt tblOk 9 [] (by kernel_rfl) ⟨?_, trivial⟩
      refine Cl.mono (ints_spec (l := [r.pax.id]) (hS.arr (b := q8) (by simp)) (all1 hr.ok.pax.id).2 (by simp)) ?_
      rintro _ w9 ⟨rfl, hS'⟩
      refine Chk.mk hS' ?_
      have hS := hS.call0 hS'
      clear hS'
      refine DrawG.takes tblOk (by kernel_rfl) 6 [10] (by kernel_rfl) ?_
      repeat (first | refine SemW.run tblOk ?_ | refine jA (by omega) ?_ | refine jB (by omega) ?_ | refine jC (by omega) ?_ | refine jD (by omega) ?_ | refine jE rfl ?_ | refine jF (by omega) ?_ | (refine jG ?_; first | with_reducible (first | refine jH ?_ | refine jI ?_ | refine jJ ?_ | refine jK ?_ | refine jL ?_) | refine jM (by omega) ?_ | refine jN (by omega) ?_ | with_reducible refine jM rfl ?_ | refine jM (by assumption) ?_ | refine jN (by assumption) ?_ | refine jM (by decide) ?_ | refine jN (by decide) ?_) | refine jF (ptr_ok tblOk rfl rfl) ?_ | refine jO (fun _ => by kernel_rfl) ?_ | refine jF (by decide) ?_ | refine hS.ldG rfl ?_ | refine hS.ldnG rfl ?_)
      refine DrawG.alt tblOk 13 [] (by kernel_rfl) ⟨?_, trivial⟩
      refine Cl.mono (pax22_spec r.pax hr.ok.pax) ?_
      rintro _ w13 ⟨rfl, hS'⟩
      refine Chk.mk hS' ?_
      have hS := hS.call0 hS'
      clear hS'
      refine DrawG.takes tblOk (by kernel_rfl) 4 [14] (by kernel_rfl) ?_
      repeat (first | refine SemW.run tblOk ?_ | refine jA (by omega) ?_ | refine jB (by omega) ?_ | refine jC (by omega) ?_ | refine jD (by omega) ?_ | refine jE rfl ?_ | refine jF (by omega) ?_ | (refine jG ?_; first | with_reducible (first | refine jH ?_ | refine jI ?_ | refine jJ ?_ | refine jK ?_ | refine jL ?_) | refine jM (by omega) ?_ | refine jN (by omega) ?_ | with_reducible refine jM rfl ?_ | refine jM (by assumption) ?_ | refine jN (by assumption) ?_ | refine jM (by decide) ?_ | refine jN (by decide) ?_) | refine jF (ptr_ok tblOk rfl rfl) ?_ | refine jO (fun _ => by kernel_rfl) ?_ | refine jF (by decide) ?_ | refine hS.ldG rfl ?_ | refine hS.ldnG rfl ?_)
      refine Chk.mk (by simp only [List.length_append]; omega) ?_
      repeat (first | refine SemW.run tblOk ?_ | refine jA (by omega) ?_ | refine jB (by omega) ?_ | refine jC (by omega) ?_ | refine jD (by omega) ?_ | refine jE rfl ?_ | refine jF (by omega) ?_ | (refine jG ?_; first | with_reducible (first | refine jH ?_ | refine jI ?_ | refine jJ ?_ | refine jK ?_ | refine jL ?_) | refine jM (by omega) ?_ | refine jN (by omega) ?_ | with_reducible refine jM rfl ?_ | refine jM (by assumption) ?_ | refine jN (by assumption) ?_ | refine jM (by decide) ?_ | refine jN (by decide) ?_) | refine jF (ptr_ok tblOk rfl rfl) ?_ | refine jO (fun _ => by kernel_rfl) ?_ | refine jF (by decide) ?_ | refine hS.ldG rfl ?_ | refine hS.ldnG rfl ?_)
      refine DrawG.alt tblOk 17 [] (by kernel_rfl) ⟨?_, trivial⟩
      refine Cl.mono (TextE_spec r.text (by omega)) ?_
      rintro _ w17 ⟨rfl, hS'⟩
      refine Chk.mk hS' ?_
      have hS := hS.call0 hS'
      clear hS'
      refine DrawG.takes tblOk (by kernel_rfl) 2 [18] (by kernel_rfl) ?_
      repeat (first | refine SemW.run tblOk ?_ | refine jA (by omega) ?_ | refine jB (by omega) ?_ | refine jC (by omega) ?_ | refine jD (by omega) ?_ | refine jE rfl ?_ | refine jF (by omega) ?_ | (refine jG ?_; first | with_reducible (first | refine jH ?_ | refine jI ?_ | refine jJ ?_ | refine jK ?_ | refine jL ?_) | refine jM (by omega) ?_ | refine jN (by omega) ?_ | with_reducible refine jM rfl ?_ | refine jM (by assumption) ?_ | refine jN (by assumption) ?_ | refine jM (by decide) ?_ | refine jN (by decide) ?_) | refine jF (ptr_ok tblOk rfl rfl) ?_ | refine jO (fun _ => by kernel_rfl) ?_ | refine jF (by decide) ?_ | refine hS.ldG rfl ?_ | refine hS.ldnG rfl ?_)
      refine Chk.mk (by simp only [List.length_append]; omega) ?_
      repeat (first | refine SemW.run tblOk ?_ | refine jA (by omega) ?_ | refine jB (by omega) ?_ | refine jC (by omega) ?_ | refine jD (by omega) ?_ | refine jE rfl ?_ | refine jF (by omega) ?_ | (refine jG ?_; first | with_reducible (first | refine jH ?_ | refine jI ?_ | refine jJ ?_ | refine jK ?_ | refine jL ?_) | refine jM (by omega) ?_ | refine jN (by omega) ?_ | with_reducible refine jM rfl ?_ | refine jM (by assumption) ?_ | refine jN (by assumption) ?_ | refine jM (by decide) ?_ | refine jN (by decide) ?_) | refine jF (ptr_ok tblOk rfl rfl) ?_ | refine jO (fun _ => by kernel_rfl) ?_ | refine jF (by decide) ?_ | refine hS.ldG rfl ?_ | refine hS.ldnG rfl ?_)
      refine DrawG.takes tblOk (by kernel_rfl) 1 [19] (by kernel_rfl) ?_
      repeat (first | refine SemW.run tblOk ?_ | refine jA (by omega) ?_ | refine jB (by omega) ?_ | refine jC (by omega) ?_ | refine jD (by omega) ?_ | refine jE rfl ?_ | refine jF (by omega) ?_ | (refine jG ?_; first | with_reducible (first | refine jH ?_ | refine jI ?_ | refine jJ ?_ | refine jK ?_ | refine jL ?_) | refine jM (by omega) ?_ | refine jN (by omega) ?_ | with_reducible refine jM rfl ?_ | refine jM (by assumption) ?_ | refine jN (by assumption) ?_ | refine jM (by decide) ?_ | refine jN (by decide) ?_) | refine jF (ptr_ok tblOk rfl rfl) ?_ | refine jO (fun _ => by kernel_rfl) ?_ | refine jF (by decide) ?_ | refine hS.ldG rfl ?_ | refine hS.ldnG rfl ?_)
      refine Chk.mk (by simp only [List.length_append]; omega) ?_
      repeat (first | refine SemW.run tblOk ?_ | refine jA (by omega) ?_ | refine jB (by omega) ?_ | refine jC (by omega) ?_ | refine jD (by omega) ?_ | refine jE rfl ?_ | refine jF (by omega) ?_ | (refine jG ?_; first | with_reducible (first | refine jH ?_ | refine jI ?_ | refine jJ ?_ | refine jK ?_ | refine jL ?_) | refine jM (by omega) ?_ | refine jN (by omega) ?_ | with_reducible refine jM rfl ?_ | refine jM (by assumption) ?_ | refine jN (by assumption) ?_ | refine jM (by decide) ?_ | refine jN (by decide) ?_) | refine jF (ptr_ok tblOk rfl rfl) ?_ | refine jO (fun _ => by kernel_rfl) ?_ | refine jF (by decide) ?_ | refine hS.ldG rfl ?_ | refine hS.ldnG rfl ?_)
      refine DrawG.takes tblOk (by kernel_rfl) 0 [20] (by kernel_rfl) ?_
      repeat (first | refine SemW.run tblOk ?_ | refine jA (by omega) ?_ | refine jB (by omega) ?_ | refine jC (by omega) ?_ | refine jD (by omega) ?_ | refine jE rfl ?_ | refine jF (by omega) ?_ | (refine jG ?_; first | with_reducible (first | refine jH ?_ | refine jI ?_ | refine jJ ?_ | refine jK ?_ | refine jL ?_) | refine jM (by omega) ?_ | refine jN (by omega) ?_ | with_reducible refine jM rfl ?_ | refine jM (by assumption) ?_ | refine jN (by assumption) ?_ | refine jM (by decide) ?_ | refine jN (by decide) ?_) | refine jF (ptr_ok tblOk rfl rfl) ?_ | refine jO (fun _ => by kernel_rfl) ?_ | refine jF (by decide) ?_ | refine hS.ldG rfl ?_ | refine hS.ldnG rfl ?_)
      refine DrawG.done (by kernel_rfl) ?_
      exact ⟨(), ⟨rfl, trivial⟩, hS.nil⟩
  clear hS
  rintro _ w11 hS
  repeat (first | refine SemW.run tblOk ?_ | refine jA (by omega) ?_ | refine jB (by omega) ?_ | refine jC (by omega) ?_ | refine jD (by omega) ?_ | refine jE rfl ?_ | refine jF (by omega) ?_ | (refine jG ?_; first | with_reducible (first | refine jH ?_ | refine jI ?_ | refine jJ ?_ | refine jK ?_ | refine jL ?_) | refine jM (by omega) ?_ | refine jN (by omega) ?_ | with_reducible refine jM rfl ?_ | refine jM (by assumption) ?_ | refine jN (by assumption) ?_ | refine jM (by decide) ?_ | refine jN (by decide) ?_) | refine jF (ptr_ok tblOk rfl rfl) ?_ | refine jO (fun _ => by kernel_rfl) ?_ | refine jF (by decide) ?_ | refine hS.ld rfl ?_ | refine hS.ldn rfl ?_ | (refine hS.st rfl rfl ?_; intro _ hS))
  refine Cl.mono one_spec ?_
  rintro _ w12 ⟨rfl, hS'⟩
  have hS := hS.call0 hS'
  unfold repOut
  by_cases hp : (replyB r).length ≤ 65536
  · rw [if_pos hp, if_pos ⟨hgood, hp⟩]
    repeat (first | refine SemW.run tblOk ?_ | refine jA (by omega) ?_ | refine jB (by omega) ?_ | refine jC (by omega) ?_ | refine jD (by omega) ?_ | refine jE rfl ?_ | refine jF (by omega) ?_ | (refine jG ?_; first | with_reducible (first | refine jH ?_ | refine jI ?_ | refine jJ ?_ | refine jK ?_ | refine jL ?_) | refine jM (by omega) ?_ | refine jN (by omega) ?_ | with_reducible refine jM rfl ?_ | refine jM (by assumption) ?_ | refine jN (by assumption) ?_ | refine jM (by decide) ?_ | refine jN (by decide) ?_) | refine jF (ptr_ok tblOk rfl rfl) ?_ | refine jO (fun _ => by kernel_rfl) ?_ | refine jF (by decide) ?_ | refine hS.ld rfl ?_ | refine hS.ldn rfl ?_ | (refine hS.st rfl rfl ?_; intro _ hS))
    exact ⟨rfl, hS.nil⟩
  · rw [if_neg hp, if_neg (fun h => hp h.2)]
    repeat (first | refine SemW.run tblOk ?_ | refine jA (by omega) ?_ | refine jB (by omega) ?_ | refine jC (by omega) ?_ | refine jD (by omega) ?_ | refine jE rfl ?_ | refine jF (by omega) ?_ | (refine jG ?_; first | with_reducible (first | refine jH ?_ | refine jI ?_ | refine jJ ?_ | refine jK ?_ | refine jL ?_) | refine jM (by omega) ?_ | refine jN (by omega) ?_ | with_reducible refine jM rfl ?_ | refine jM (by assumption) ?_ | refine jN (by assumption) ?_ | refine jM (by decide) ?_ | refine jN (by decide) ?_) | refine jF (ptr_ok tblOk rfl rfl) ?_ | refine jO (fun _ => by kernel_rfl) ?_ | refine jF (by decide) ?_ | refine hS.ld rfl ?_ | refine hS.ldn rfl ?_ | (refine hS.st rfl rfl ?_; intro _ hS))
    exact ⟨rfl, hS.nil⟩
end Go.Proofs.YthpmmfapolcaiaaGreatDoor

/- Package wire: a reply's fields, read. -/
namespace Go.Proofs.YthpmmfapolcaiaaGreatDoor
open Go Go.Eng Go.Proofs
abbrev zPax : PaxM := ⟨0, 0, 0, false, false, false, false, 0, 0, 0, 0, 0, 0⟩
abbrev zRep : ReplyM := ⟨0, [], 0, 0, 0, 0, false, zPax, []⟩
abbrev strO (x : Bytes) : Obj := .cells ⟨[Str x]⟩ T_string (0, 0)
/-- The memory of a reply that is read. -/
abbrev repH (ab rr rb sb : Nat) (r : ReplyM) (a : Option Addr) (cap : Nat) (s : RB) (x : Bytes) (Lv : Heap) : Heap := (ab, repO r a cap) :: (rr, wrdC rb s.bad) :: (rb, rdC s.t) :: (sb, strO x) :: Lv
structure II where
  l : List Int
  s : RB
  a : Option Addr
  cap : Nat
theorem wInts_next {n : Nat} {l : List Int} {s : RB} {X : List Int × RB} (hl : l.length < n) (hx : (l ++ (wInts (n - l.length) s).1, (wInts (n - l.length) s).2) = X) :
    ((l ++ [(rbInt s).1]) ++ (wInts (n - (l ++ [(rbInt s).1]).length) (rbInt s).2).1, (wInts (n - (l ++ [(rbInt s).1]).length) (rbInt s).2).2) = X := by
  rw [show n - l.length = (n - (l ++ [(rbInt s).1]).length) + 1 by simp; omega] at hx
  rw [← hx]
  simp [wInts]
theorem wInts_cut7 (s : RB) : ∃ a b c d e f g, wInts 7 s = ([a, b, c, d, e, f, g], (wInts 7 s).2) := ⟨_, _, _, _, _, _, _, rfl⟩
theorem vec_int {l : List Int} {z : Int} {g c2 : Nat} {fill : List Value} (hfl : l.length + 1 + fill.length = c2) (hcap : l.length + 1 ≤ c2) : Vec T_int 1 (some ⟨g, 0, none⟩) (l ++ [z]).length c2 ((l ++ [z]).map intV) [(g, .cells ⟨l.map intV ++ ([intV z] ++ fill)⟩ T_int (0, 0))] := by
  have e9 : l.map intV ++ ([intV z] ++ fill) = (l ++ [z]).map intV ++ fill := by simp
  rw [e9]
  refine Vec.row g _ c2 _ fill (by simp) ?_ (by simpa using hcap)
  rw [List.length_map, List.length_append, List.length_singleton]; omega
set_option maxRecDepth 4000 in
set_option maxHeartbeats 8000000 in
theorem reply_rd {w : World} {ab rr rb sb : Nat} {s : RB} (hh : Holds (repH ab rr rb sb zRep none 0 s [] []) w) (ht : s.t.length ≤ 1048576) :
    Cl Tryz.prog f_wire_reply [.iface T_Ptr_wire_reader (ptr rr), ptr ab, ptr sb] w fun _ w' => ∃ a cap Lv, Vec T_int 1 a (wReply s).1.1.ids.length cap ((wReply s).1.1.ids.map intV) Lv ∧ St w [ab, rr, rb, sb] (repH ab rr rb sb (wReply s).1.1 a cap (wReply s).2 (wReply s).1.2 Lv) w' := by
  have hS : St w [ab, rr, rb, sb] (repH ab rr rb sb zRep none 0 s [] []) w := St.enter hh
  obtain ⟨T0, hT⟩ : ∃ T0, T0 = [ab, rr, rb, sb] := ⟨_, rfl⟩
  rw [← hT] at hS ⊢
  unfold wReply tk
  simp only
  refine en_wire_reply rfl ?_
  repeat (first | refine SemW.run tblOk ?_ | refine jA (by omega) ?_ | refine jB (by omega) ?_ | refine jC (by omega) ?_ | refine jD (by omega) ?_ | refine jE rfl ?_ | refine jF (by omega) ?_ | (refine jG ?_; first | with_reducible (first | refine jH ?_ | refine jI ?_ | refine jJ ?_ | refine jK ?_ | refine jL ?_) | refine jM (by omega) ?_ | refine jN (by omega) ?_ | with_reducible refine jM rfl ?_ | refine jM (by assumption) ?_ | refine jN (by assumption) ?_ | refine jM (by decide) ?_ | refine jN (by decide) ?_) | refine jF (ptr_ok tblOk rfl rfl) ?_ | refine jO (fun _ => by kernel_rfl) ?_ | refine jF (by decide) ?_ | refine hS.ld rfl ?_ | refine hS.ldn rfl ?_ | (refine hS.st rfl rfl ?_; intro _ hS))
  refine hS.al ?_
  intro cv w1 _ hS
  repeat (first | refine SemW.run tblOk ?_ | refine jA (by omega) ?_ | refine jB (by omega) ?_ | refine jC (by omega) ?_ | refine jD (by omega) ?_ | refine jE rfl ?_ | refine jF (by omega) ?_ | (refine jG ?_; first | with_reducible (first | refine jH ?_ | refine jI ?_ | refine jJ ?_ | refine jK ?_ | refine jL ?_) | refine jM (by omega) ?_ | refine jN (by omega) ?_ | with_reducible refine jM rfl ?_ | refine jM (by assumption) ?_ | refine jN (by assumption) ?_ | refine jM (by decide) ?_ | refine jN (by decide) ?_) | refine jF (ptr_ok tblOk rfl rfl) ?_ | refine jO (fun _ => by kernel_rfl) ?_ | refine jF (by decide) ?_ | refine hS.ld rfl ?_ | refine hS.ldn rfl ?_ | (refine hS.st rfl rfl ?_; intro _ hS))
  have hS : St w T0 ((ab, repO zRep none 0) :: (tgH cv [.int .i64 0] T_int rr rb s ++ [(sb, strO [])])) _ := hS.perm (List.Perm.swap _ _ _)
  refine hS.al ?_
  intro q w2 _ hS
  repeat (first | refine SemW.run tblOk ?_ | refine jA (by omega) ?_ | refine jB (by omega) ?_ | refine jC (by omega) ?_ | refine jD (by omega) ?_ | refine jE rfl ?_ | refine jF (by omega) ?_ | (refine jG ?_; first | with_reducible (first | refine jH ?_ | refine jI ?_ | refine jJ ?_ | refine jK ?_ | refine jL ?_) | refine jM (by omega) ?_ | refine jN (by omega) ?_ | with_reducible refine jM rfl ?_ | refine jM (by assumption) ?_ | refine jN (by assumption) ?_ | refine jM (by decide) ?_ | refine jN (by decide) ?_) | refine jF (ptr_ok tblOk rfl rfl) ?_ | refine jO (fun _ => by kernel_rfl) ?_ | refine jF (by decide) ?_ | refine hS.ld rfl ?_ | refine hS.ldn rfl ?_ | (refine hS.st rfl rfl ?_; intro _ hS))
  refine InvG.mk ⟨f_wire_reader_int, ptr rr, by kernel_rfl, ?_⟩
  refine Cl.mono (rint_spec (b := cv) (s := s) (hS.part (L := tgH cv [.int .i64 0] T_int rr rb s)) (by omega) (offs := [0]) (hS.arr (b := q) (show q ∉ [cv, rr, rb] from nodup_chunk (L := tgH cv [.int .i64 0] T_int rr rb s) hS)) (by simp) (by simp)) ?_
  rintro _ w3 hS'
  have hS := (hS.call (L := tgH cv [.int .i64 0] T_int rr rb s) hS').sub (List.sublist_cons_self _ _)
  obtain ⟨z0, hy, -⟩ := wInts_cut1 s
  have htl := wInts_tlen 1 s
  have hS : St w T0 ((ab, repO zRep none 0) :: (tgH cv (setL [.int .i64 0] [0] ((wInts 1 s).1.map intV)) T_int rr rb (wInts 1 s).2 ++ [(sb, strO [])])) _ := hS
  rw [hy] at hS ⊢
  simp only at hS ⊢
  generalize (wInts 1 s).2 = s1 at hS htl ⊢
  have hS : St w T0 ((ab, repO zRep none 0) :: (cv, .cells ⟨[.int .i64 z0]⟩ T_int (0, 0)) :: (rr, wrdC rb s1.bad) :: (rb, rdC s1.t) :: [(sb, strO [])]) _ := hS
  repeat (first | refine SemW.run tblOk ?_ | refine jA (by omega) ?_ | refine jB (by omega) ?_ | refine jC (by omega) ?_ | refine jD (by omega) ?_ | refine jE rfl ?_ | refine jF (by omega) ?_ | (refine jG ?_; first | with_reducible (first | refine jH ?_ | refine jI ?_ | refine jJ ?_ | refine jK ?_ | refine jL ?_) | refine jM (by omega) ?_ | refine jN (by omega) ?_ | with_reducible refine jM rfl ?_ | refine jM (by assumption) ?_ | refine jN (by assumption) ?_ | refine jM (by decide) ?_ | refine jN (by decide) ?_) | refine jF (ptr_ok tblOk rfl rfl) ?_ | refine jO (fun _ => by kernel_rfl) ?_ | refine jF (by decide) ?_ | refine hS.ld rfl ?_ | refine hS.ldn rfl ?_ | (refine hS.st rfl rfl ?_; intro _ hS))
  have hS : St w T0 (repH ab rr rb sb { zRep with code := z0 } none 0 s1 [] []) _ := hS.sub (List.Sublist.cons_cons _ (List.sublist_cons_self _ _))
  refine SemW.draw tblOk mixed (fun w' => St w T0 (repH ab rr rb sb { zRep with code := z0 } none 0 s1 [] []) w') [9, 10] [0, 1, 2, 3, 4, 5, 6, 7, 8, 9, 10] (by kernel_rfl) hS.drew ?_
  have hS := hS.drew
  repeat (first | refine SemW.run tblOk ?_ | refine jA (by omega) ?_ | refine jB (by omega) ?_ | refine jC (by omega) ?_ | refine jD (by omega) ?_ | refine jE rfl ?_ | refine jF (by omega) ?_ | (refine jG ?_; first | with_reducible (first | refine jH ?_ | refine jI ?_ | refine jJ ?_ | refine jK ?_ | refine jL ?_) | refine jM (by omega) ?_ | refine jN (by omega) ?_ | with_reducible refine jM rfl ?_ | refine jM (by assumption) ?_ | refine jN (by assumption) ?_ | refine jM (by decide) ?_ | refine jN (by decide) ?_) | refine jF (ptr_ok tblOk rfl rfl) ?_ | refine jO (fun _ => by kernel_rfl) ?_ | refine jF (by decide) ?_ | refine hS.ldC rfl ?_ | refine hS.ldnC rfl ?_)
  refine InvG.mk ⟨f_wire_reader_count, ptr rr, by kernel_rfl, ?_⟩
  refine Cl.mono (rcount_spec (s := s1) (hS.part (L := rdH rr rb s1)) (by omega) _) ?_
  rintro _ w5 ⟨rfl, hS'⟩
  have hS := hS.call (L := rdH rr rb s1) hS'
  have hn := wNum_le s1.t.length s1
  have htl2 := wNum_tlen s1.t.length s1
  generalize wNum s1.t.length s1 = y at hS hn htl2 ⊢
  obtain ⟨n, s2⟩ := y
  simp only at hS hn htl2 ⊢
  have hS : St w T0 (repH ab rr rb sb { zRep with code := z0, ids := [] } none 0 s2 [] []) w5 := hS
  repeat (first | refine SemW.run tblOk ?_ | refine jA (by omega) ?_ | refine jB (by omega) ?_ | refine jC (by omega) ?_ | refine jD (by omega) ?_ | refine jE rfl ?_ | refine jF (by omega) ?_ | (refine jG ?_; first | with_reducible (first | refine jH ?_ | refine jI ?_ | refine jJ ?_ | refine jK ?_ | refine jL ?_) | refine jM (by omega) ?_ | refine jN (by omega) ?_ | with_reducible refine jM rfl ?_ | refine jM (by assumption) ?_ | refine jN (by assumption) ?_ | refine jM (by decide) ?_ | refine jN (by decide) ?_) | refine jF (ptr_ok tblOk rfl rfl) ?_ | refine jO (fun _ => by kernel_rfl) ?_ | refine jF (by decide) ?_)
  refine StopW.join (fun _ : II => [(0, .iface T_Ptr_wire_reader (ptr rr)), (1, ptr ab), (2, ptr sb)])
    (fun z w' => ((z.l, z.s) = wInts n s2 ∧ z.s.t.length ≤ s2.t.length) ∧ ∃ Lv, Vec T_int 1 z.a z.l.length z.cap (z.l.map intV) Lv ∧ St w T0 (repH ab rr rb sb { zRep with code := z0, ids := z.l } z.a z.cap z.s [] Lv) w') ?_ ?_
  · refine SemW.loop (fun z : II => [(0, .iface T_Ptr_wire_reader (ptr rr)), (1, ptr ab), (2, ptr sb), (32, .int .i64 n), (33, .int .i64 z.l.length)])
      (fun z w' => (z.l.length ≤ n ∧ (z.l ++ (wInts (n - z.l.length) z.s).1, (wInts (n - z.l.length) z.s).2) = wInts n s2 ∧ z.s.t.length ≤ s2.t.length) ∧ ∃ Lv, Vec T_int 1 z.a z.l.length z.cap (z.l.map intV) Lv ∧ St w T0 (repH ab rr rb sb { zRep with code := z0, ids := z.l } z.a z.cap z.s [] Lv) w') (fun z => n - z.l.length) ⟨[], s2, none, 0⟩
      ⟨rfl, rfl, rfl, rfl, rfl, trivial⟩ ⟨⟨Nat.zero_le _, rfl, Nat.le_refl _⟩, [], Vec.nil, hS⟩ ?_
    clear hS hS'
    rintro ⟨l, s3, a, cap⟩ w6 ⟨⟨hln, hx, hst⟩, Lv, hv, hS⟩
    simp only at hln hx hst hv hS ⊢
    by_cases hlt : l.length < n
    · have hS : St w T0 ((ab, .cells ⟨[.int .i64 z0, .slice a l.length cap, .int .i64 0, .int .i64 0, .int .i64 0, .int .i64 0, .bool false, .int .i64 0, .int .i64 0, .int .i64 0, .bool false, .bool false, .bool false, .bool false, .int .i64 0, .int .i64 0, .int .i64 0, .int .i64 0, .int .i64 0, .int .u8 0, Str []]⟩ T_api_Reply (0, 0)) :: (rr, wrdC rb s3.bad) :: (rb, rdC s3.t) :: (sb, strO []) :: Lv) w6 := hS
      repeat (first | refine SemW.run tblOk ?_ | refine jA (by omega) ?_ | refine jB (by omega) ?_ | refine jC (by omega) ?_ | refine jD (by omega) ?_ | refine jE rfl ?_ | refine jF (by omega) ?_ | (refine jG ?_; first | with_reducible (first | refine jH ?_ | refine jI ?_ | refine jJ ?_ | refine jK ?_ | refine jL ?_) | refine jM (by omega) ?_ | refine jN (by omega) ?_ | with_reducible refine jM rfl ?_ | refine jM (by assumption) ?_ | refine jN (by assumption) ?_ | refine jM (by decide) ?_ | refine jN (by decide) ?_) | refine jF (ptr_ok tblOk rfl rfl) ?_ | refine jO (fun _ => by kernel_rfl) ?_ | refine jF (by decide) ?_ | refine hS.ld rfl ?_ | refine hS.ldn rfl ?_ | (refine hS.st rfl rfl ?_; intro _ hS))
      refine hS.al ?_
      intro q w7 _ hS
      repeat (first | refine SemW.run tblOk ?_ | refine jA (by omega) ?_ | refine jB (by omega) ?_ | refine jC (by omega) ?_ | refine jD (by omega) ?_ | refine jE rfl ?_ | refine jF (by omega) ?_ | (refine jG ?_; first | with_reducible (first | refine jH ?_ | refine jI ?_ | refine jJ ?_ | refine jK ?_ | refine jL ?_) | refine jM (by omega) ?_ | refine jN (by omega) ?_ | with_reducible refine jM rfl ?_ | refine jM (by assumption) ?_ | refine jN (by assumption) ?_ | refine jM (by decide) ?_ | refine jN (by decide) ?_) | refine jF (ptr_ok tblOk rfl rfl) ?_ | refine jO (fun _ => by kernel_rfl) ?_ | refine jF (by decide) ?_ | refine hS.ld rfl ?_ | refine hS.ldn rfl ?_ | (refine hS.st rfl rfl ?_; intro _ hS))
      refine St.app (sz := 1) (m := 1) tblOk rfl rfl rfl rfl hS hv (news := [intV 0]) rfl (by have := hS.arr (b := q) (T' := []) (by simp); exact this) rfl (by show (_ + _) * 8 ≤ _; omega) (by omega) ?_
      intro a2 c2 L2 w8 hv2 hS
      rcases hv2.inv with ⟨-, h0, -⟩ | ⟨g, fill, rfl, hx2, hl2, hcap, rfl⟩
      · omega
      have hfl : l.length + 1 + fill.length = c2 := by
        rw [List.length_append, List.length_map] at hl2
        simp only [List.length_singleton] at hl2
        omega
      rw [List.append_assoc] at hS
      repeat (first | refine SemW.run tblOk ?_ | refine jA (by omega) ?_ | refine jB (by omega) ?_ | refine jC (by omega) ?_ | refine jD (by omega) ?_ | refine jE rfl ?_ | refine jF (by omega) ?_ | (refine jG ?_; first | with_reducible (first | refine jH ?_ | refine jI ?_ | refine jJ ?_ | refine jK ?_ | refine jL ?_) | refine jM (by omega) ?_ | refine jN (by omega) ?_ | with_reducible refine jM rfl ?_ | refine jM (by assumption) ?_ | refine jN (by assumption) ?_ | refine jM (by decide) ?_ | refine jN (by decide) ?_) | refine jF (ptr_ok tblOk rfl rfl) ?_ | refine jO (fun _ => by kernel_rfl) ?_ | refine jF (by decide) ?_ | refine hS.ld rfl ?_ | refine hS.ldn rfl ?_ | (refine hS.st rfl rfl ?_; intro _ hS))
      have hS := hS.sub (List.sublist_cons_self _ _)
      have hS : St w T0 ((ab, .cells ⟨[.int .i64 z0, .slice (some ⟨g, 0, none⟩) (l.length + 1) c2, .int .i64 0, .int .i64 0, .int .i64 0, .int .i64 0, .bool false, .int .i64 0, .int .i64 0, .int .i64 0, .bool false, .bool false, .bool false, .bool false, .int .i64 0, .int .i64 0, .int .i64 0, .int .i64 0, .int .i64 0, .int .u8 0, Str []]⟩ T_api_Reply (0, 0)) :: (sb, strO []) :: tgH g (l.map intV ++ ([intV 0] ++ fill)) T_int rr rb s3) _ := hS.perm (List.Perm.cons _ (List.perm_append_comm (l₁ := [_, _]) (l₂ := [_, _])))
      refine SemW.draw tblOk mixed (fun w' => St w T0 ((ab, .cells ⟨[.int .i64 z0, .slice (some ⟨g, 0, none⟩) (l.length + 1) c2, .int .i64 0, .int .i64 0, .int .i64 0, .int .i64 0, .bool false, .int .i64 0, .int .i64 0, .int .i64 0, .bool false, .bool false, .bool false, .bool false, .int .i64 0, .int .i64 0, .int .i64 0, .int .i64 0, .int .i64 0, .int .u8 0, Str []]⟩ T_api_Reply (0, 0)) :: (sb, strO []) :: tgH g (l.map intV ++ ([intV 0] ++ fill)) T_int rr rb s3) w') [11] [0, 1, 2, 3, 4, 5, 6, 8, 9, 10, 7, 11] (by kernel_rfl) hS.drew ?_
      have hS := hS.drew
      repeat (first | refine SemW.run tblOk ?_ | refine jA (by omega) ?_ | refine jB (by omega) ?_ | refine jC (by omega) ?_ | refine jD (by omega) ?_ | refine jE rfl ?_ | refine jF (by omega) ?_ | (refine jG ?_; first | with_reducible (first | refine jH ?_ | refine jI ?_ | refine jJ ?_ | refine jK ?_ | refine jL ?_) | refine jM (by omega) ?_ | refine jN (by omega) ?_ | with_reducible refine jM rfl ?_ | refine jM (by assumption) ?_ | refine jN (by assumption) ?_ | refine jM (by decide) ?_ | refine jN (by decide) ?_) | refine jF (ptr_ok tblOk rfl rfl) ?_ | refine jO (fun _ => by kernel_rfl) ?_ | refine jF (by decide) ?_ | refine hS.ldC rfl ?_ | refine hS.ldnC rfl ?_)
      refine hS.al ?_
      intro q w9 _ hS
      refine Chk.mk (hS.sub (List.sublist_cons_self _ _)) ?_
      repeat (first | refine SemW.run tblOk ?_ | refine jA (by omega) ?_ | refine jB (by omega) ?_ | refine jC (by omega) ?_ | refine jD (by omega) ?_ | refine jE rfl ?_ | refine jF (by omega) ?_ | (refine jG ?_; first | with_reducible (first | refine jH ?_ | refine jI ?_ | refine jJ ?_ | refine jK ?_ | refine jL ?_) | refine jM (by omega) ?_ | refine jN (by omega) ?_ | with_reducible refine jM rfl ?_ | refine jM (by assumption) ?_ | refine jN (by assumption) ?_ | refine jM (by decide) ?_ | refine jN (by decide) ?_) | refine jF (ptr_ok tblOk rfl rfl) ?_ | refine jO (fun _ => by kernel_rfl) ?_ | refine jF (by decide) ?_ | refine hS.ldC rfl ?_ | refine hS.ldnC rfl ?_)
      refine InvG.mk ⟨f_wire_reader_int, ptr rr, by kernel_rfl, ?_⟩
      refine Cl.mono (rint_spec (b := g) (s := s3) (hS.part (L := tgH g (l.map intV ++ ([intV 0] ++ fill)) T_int rr rb s3)) (by omega) (offs := [0 + l.length * 1]) (hS.arr (b := q) (show q ∉ [g, rr, rb] from nodup_chunk (L := tgH g (l.map intV ++ ([intV 0] ++ fill)) T_int rr rb s3) hS)) (by
        intro o ho
        simp only [List.mem_cons, List.mem_nil_iff, or_false] at ho
        simp only [List.length_append, List.length_map, List.length_cons, List.length_nil]
        omega) (by simp)) ?_
      rintro _ w10 hS'
      have hS := (hS.call (L := tgH g (l.map intV ++ ([intV 0] ++ fill)) T_int rr rb s3) hS').sub (List.sublist_cons_self _ _)
      have hoff1 : [0 + l.length * 1] = [0].map fun o => (l.map intV).length + o := by simp
      have hS : St w T0 ((ab, .cells ⟨[.int .i64 z0, .slice (some ⟨g, 0, none⟩) (l.length + 1) c2, .int .i64 0, .int .i64 0, .int .i64 0, .int .i64 0, .bool false, .int .i64 0, .int .i64 0, .int .i64 0, .bool false, .bool false, .bool false, .bool false, .int .i64 0, .int .i64 0, .int .i64 0, .int .i64 0, .int .i64 0, .int .u8 0, Str []]⟩ T_api_Reply (0, 0)) :: (sb, strO []) :: tgH g (setL (l.map intV ++ ([intV 0] ++ fill)) [0 + l.length * 1] [intV (rbInt s3).1]) T_int rr rb (rbInt s3).2) _ := hS
      rw [hoff1, setL_app] at hS
      have htl4 := rbInt_len' s3
      have hxn := wInts_next hlt hx
      generalize rbInt s3 = y3 at hS htl4 hxn
      obtain ⟨z, s4⟩ := y3
      simp only at hS htl4 hxn
      have e8 : l.length + 1 = (l ++ [z]).length := by simp
      have hvn := vec_int (l := l) (z := z) (g := g) hfl hcap
      have hS := hS.perm (List.Perm.cons _ (List.perm_append_comm (l₁ := [_, _]) (l₂ := [_, _])))
      have hS : St w T0 ((ab, .cells ⟨[.int .i64 z0, .slice (some ⟨g, 0, none⟩) (l.length + 1) c2, .int .i64 0, .int .i64 0, .int .i64 0, .int .i64 0, .bool false, .int .i64 0, .int .i64 0, .int .i64 0, .bool false, .bool false, .bool false, .bool false, .int .i64 0, .int .i64 0, .int .i64 0, .int .i64 0, .int .i64 0, .int .u8 0, Str []]⟩ T_api_Reply (0, 0)) :: (rr, wrdC rb s4.bad) :: (rb, rdC s4.t) :: (sb, strO []) :: [(g, .cells ⟨l.map intV ++ ([intV z] ++ fill)⟩ T_int (0, 0))]) _ := hS
      rw [e8] at hS
      repeat (first | refine SemW.run tblOk ?_ | refine jA (by omega) ?_ | refine jB (by omega) ?_ | refine jC (by omega) ?_ | refine jD (by omega) ?_ | refine jE rfl ?_ | refine jF (by omega) ?_ | (refine jG ?_; first | with_reducible (first | refine jH ?_ | refine jI ?_ | refine jJ ?_ | refine jK ?_ | refine jL ?_) | refine jM (by omega) ?_ | refine jN (by omega) ?_ | with_reducible refine jM rfl ?_ | refine jM (by assumption) ?_ | refine jN (by assumption) ?_ | refine jM (by decide) ?_ | refine jN (by decide) ?_) | refine jF (ptr_ok tblOk rfl rfl) ?_ | refine jO (fun _ => by kernel_rfl) ?_ | refine jF (by decide) ?_)
      exact ⟨⟨l ++ [z], s4, some ⟨g, 0, none⟩, c2⟩, ⟨rfl, rfl, rfl, rfl, congrArg (Value.int .i64) (by rw [← e8]; rfl), trivial⟩, ⟨⟨by simp only; omega, hxn, by simp only; omega⟩, _, hvn, hS⟩, by simp only; omega⟩
    · have hle : n - l.length = 0 := by omega
      rw [hle] at hx
      have hx : (l, s3) = wInts n s2 := by rw [← hx]; simp [wInts]
      repeat (first | refine SemW.run tblOk ?_ | refine jA (by omega) ?_ | refine jB (by omega) ?_ | refine jC (by omega) ?_ | refine jD (by omega) ?_ | refine jE rfl ?_ | refine jF (by omega) ?_ | (refine jG ?_; first | with_reducible (first | refine jH ?_ | refine jI ?_ | refine jJ ?_ | refine jK ?_ | refine jL ?_) | refine jM (by omega) ?_ | refine jN (by omega) ?_ | with_reducible refine jM rfl ?_ | refine jM (by assumption) ?_ | refine jN (by assumption) ?_ | refine jM (by decide) ?_ | refine jN (by decide) ?_) | refine jF (ptr_ok tblOk rfl rfl) ?_ | refine jO (fun _ => by kernel_rfl) ?_ | refine jF (by decide) ?_)
      exact ⟨rfl, ⟨l, s3, a, cap⟩, ⟨rfl, rfl, rfl, trivial⟩, ⟨hx, hst⟩, Lv, hv, hS⟩
  clear hS hS'
  rintro ⟨l, s3, a, cap⟩ w6 ⟨⟨hx, hst⟩, Lv, hv, hS⟩
  simp only at hx hst hv hS
  rw [← hx]
  simp only
  clear hx
  repeat (first | refine SemW.run tblOk ?_ | refine jA (by omega) ?_ | refine jB (by omega) ?_ | refine jC (by omega) ?_ | refine jD (by omega) ?_ | refine jE rfl ?_ | refine jF (by omega) ?_ | (refine jG ?_; first | with_reducible (first | refine jH ?_ | refine jI ?_ | refine jJ ?_ | refine jK ?_ | refine jL ?_) | refine jM (by omega) ?_ | refine jN (by omega) ?_ | with_reducible refine jM rfl ?_ | refine jM (by assumption) ?_ | refine jN (by assumption) ?_ | refine jM (by decide) ?_ | refine jN (by decide) ?_) | refine jF (ptr_ok tblOk rfl rfl) ?_ | refine jO (fun _ => by kernel_rfl) ?_ | refine jF (by decide) ?_)
  refine StopW.join (fun _ : Unit => [(0, .iface T_Ptr_wire_reader (ptr rr)), (1, ptr ab), (2, ptr sb)])
    (fun _ w' => St w T0 (tgH ab (setL (replyC { zRep with code := z0, ids := l } a cap) [2, 3, 4, 5] ((wInts 4 s3).1.map intV)) T_api_Reply rr rb (wInts 4 s3).2 ++ ((sb, strO []) :: Lv)) w') ?_ ?_
  · refine SemW.loop (fun k : Nat => [(0, .iface T_Ptr_wire_reader (ptr rr)), (1, ptr ab), (2, ptr sb), (65, .int .i64 k)])
      (fun k w' => k ≤ 4 ∧ St w T0 (tgH ab (setL (replyC { zRep with code := z0, ids := l } a cap) ([2, 3, 4, 5].take k) ((wInts k s3).1.map intV)) T_api_Reply rr rb (wInts k s3).2 ++ ((sb, strO []) :: Lv)) w') (fun k => 4 - k) 0
      ⟨rfl, rfl, rfl, rfl, trivial⟩ ⟨Nat.zero_le _, hS⟩ ?_
    clear hS
    rintro k w6 ⟨hk, hS⟩
    by_cases hk4 : k < 4
    · have hsucc := wInts_succ k s3
      have htl2 := wInts_tlen k s3
      have hwl := wInts_len k s3
      have hx : [2, 3, 4, 5][k] = 2 + k * 1 := by
        match k, hk4 with
        | 0, _ => rfl
        | 1, _ => rfl
        | 2, _ => rfl
        | 3, _ => rfl
      have hset := setL_snoc ([2, 3, 4, 5].take k) ((wInts k s3).1.map intV) (replyC { zRep with code := z0, ids := l } a cap) [2, 3, 4, 5][k] (intV (rbInt (wInts k s3).2).1) (by rw [List.length_take, List.length_map, hwl]; simp; omega)
      rw [← List.take_succ_eq_append_getElem hk4, hx] at hset
      have hsl := setL_len ([2, 3, 4, 5].take k) ((wInts k s3).1.map intV) (replyC { zRep with code := z0, ids := l } a cap)
      have hfin : tgH ab (setL (replyC { zRep with code := z0, ids := l } a cap) ([2, 3, 4, 5].take (k + 1)) ((wInts (k + 1) s3).1.map intV)) T_api_Reply rr rb (wInts (k + 1) s3).2 = tgH ab ((setL (replyC { zRep with code := z0, ids := l } a cap) ([2, 3, 4, 5].take k) ((wInts k s3).1.map intV)).set (2 + k * 1) (intV (rbInt (wInts k s3).2).1)) T_api_Reply rr rb (rbInt (wInts k s3).2).2 := by
        rw [hsucc, ← hset]; simp
      have hsl : (setL (replyC { zRep with code := z0, ids := l } a cap) ([2, 3, 4, 5].take k) ((wInts k s3).1.map intV)).length = 21 := hsl
      generalize setL (replyC { zRep with code := z0, ids := l } a cap) ([2, 3, 4, 5].take k) ((wInts k s3).1.map intV) = ys at hS hfin hsl
      generalize (wInts k s3).2 = s4 at hS hfin htl2
      repeat (first | refine SemW.run tblOk ?_ | refine jA (by omega) ?_ | refine jB (by omega) ?_ | refine jC (by omega) ?_ | refine jD (by omega) ?_ | refine jE rfl ?_ | refine jF (by omega) ?_ | (refine jG ?_; first | with_reducible (first | refine jH ?_ | refine jI ?_ | refine jJ ?_ | refine jK ?_ | refine jL ?_) | refine jM (by omega) ?_ | refine jN (by omega) ?_ | with_reducible refine jM rfl ?_ | refine jM (by assumption) ?_ | refine jN (by assumption) ?_ | refine jM (by decide) ?_ | refine jN (by decide) ?_) | refine jF (ptr_ok tblOk rfl rfl) ?_ | refine jO (fun _ => by kernel_rfl) ?_ | refine jF (by decide) ?_)
      refine SemW.draw tblOk mixed (fun w' => St w T0 (tgH ab ys T_api_Reply rr rb s4 ++ ((sb, strO []) :: Lv)) w') [10] [0, 1, 2, 3, 4, 5, 7, 8, 9, 6, 10] (by kernel_rfl) hS.drew ?_
      have hS := hS.drew
      repeat (first | refine SemW.run tblOk ?_ | refine jA (by omega) ?_ | refine jB (by omega) ?_ | refine jC (by omega) ?_ | refine jD (by omega) ?_ | refine jE rfl ?_ | refine jF (by omega) ?_ | (refine jG ?_; first | with_reducible (first | refine jH ?_ | refine jI ?_ | refine jJ ?_ | refine jK ?_ | refine jL ?_) | refine jM (by omega) ?_ | refine jN (by omega) ?_ | with_reducible refine jM rfl ?_ | refine jM (by assumption) ?_ | refine jN (by assumption) ?_ | refine jM (by decide) ?_ | refine jN (by decide) ?_) | refine jF (ptr_ok tblOk rfl rfl) ?_ | refine jO (fun _ => by kernel_rfl) ?_ | refine jF (by decide) ?_ | refine hS.ldC rfl ?_ | refine hS.ldnC rfl ?_)
      refine hS.al ?_
      intro q w3 _ hS
      refine Chk.mk (hS.sub (List.sublist_cons_self _ _)) ?_
      repeat (first | refine SemW.run tblOk ?_ | refine jA (by omega) ?_ | refine jB (by omega) ?_ | refine jC (by omega) ?_ | refine jD (by omega) ?_ | refine jE rfl ?_ | refine jF (by omega) ?_ | (refine jG ?_; first | with_reducible (first | refine jH ?_ | refine jI ?_ | refine jJ ?_ | refine jK ?_ | refine jL ?_) | refine jM (by omega) ?_ | refine jN (by omega) ?_ | with_reducible refine jM rfl ?_ | refine jM (by assumption) ?_ | refine jN (by assumption) ?_ | refine jM (by decide) ?_ | refine jN (by decide) ?_) | refine jF (ptr_ok tblOk rfl rfl) ?_ | refine jO (fun _ => by kernel_rfl) ?_ | refine jF (by decide) ?_ | refine hS.ldC rfl ?_ | refine hS.ldnC rfl ?_)
      refine InvG.mk ⟨f_wire_reader_int, ptr rr, by kernel_rfl, ?_⟩
      refine Cl.mono (rint_spec (b := ab) (s := s4) (hS.part (L := tgH ab ys T_api_Reply rr rb s4)) (by omega) (offs := [2 + k * 1]) (hS.arr (b := q) (show q ∉ [ab, rr, rb] from nodup_chunk (L := tgH ab ys T_api_Reply rr rb s4) hS)) (by intro o ho; rw [List.mem_singleton] at ho; omega) (by simp)) ?_
      rintro _ w4 hS'
      have hS := (hS.call (L := tgH ab ys T_api_Reply rr rb s4) hS').sub (List.sublist_cons_self _ _)
      repeat (first | refine SemW.run tblOk ?_ | refine jA (by omega) ?_ | refine jB (by omega) ?_ | refine jC (by omega) ?_ | refine jD (by omega) ?_ | refine jE rfl ?_ | refine jF (by omega) ?_ | (refine jG ?_; first | with_reducible (first | refine jH ?_ | refine jI ?_ | refine jJ ?_ | refine jK ?_ | refine jL ?_) | refine jM (by omega) ?_ | refine jN (by omega) ?_ | with_reducible refine jM rfl ?_ | refine jM (by assumption) ?_ | refine jN (by assumption) ?_ | refine jM (by decide) ?_ | refine jN (by decide) ?_) | refine jF (ptr_ok tblOk rfl rfl) ?_ | refine jO (fun _ => by kernel_rfl) ?_ | refine jF (by decide) ?_)
      exact ⟨k + 1, ⟨rfl, rfl, rfl, rfl, trivial⟩, ⟨by omega, by rw [hfin]; exact hS⟩, by omega⟩
    · have hke : k = 4 := by omega
      subst hke
      repeat (first | refine SemW.run tblOk ?_ | refine jA (by omega) ?_ | refine jB (by omega) ?_ | refine jC (by omega) ?_ | refine jD (by omega) ?_ | refine jE rfl ?_ | refine jF (by omega) ?_ | (refine jG ?_; first | with_reducible (first | refine jH ?_ | refine jI ?_ | refine jJ ?_ | refine jK ?_ | refine jL ?_) | refine jM (by omega) ?_ | refine jN (by omega) ?_ | with_reducible refine jM rfl ?_ | refine jM (by assumption) ?_ | refine jN (by assumption) ?_ | refine jM (by decide) ?_ | refine jN (by decide) ?_) | refine jF (ptr_ok tblOk rfl rfl) ?_ | refine jO (fun _ => by kernel_rfl) ?_ | refine jF (by decide) ?_)
      exact ⟨rfl, (), ⟨rfl, rfl, rfl, trivial⟩, hS⟩
  clear hS
  rintro - w7 hS
  obtain ⟨n0, n1, n2, n3, hy⟩ := wInts_cut4 s3
  have htl5 := wInts_tlen 4 s3
  rw [hy] at hS ⊢
  simp only at hS ⊢
  generalize (wInts 4 s3).2 = s4 at hS htl5 ⊢
  have hS : St w T0 (tgH ab (replyC { zRep with code := z0, ids := l, n0 := n0, n1 := n1, n2 := n2, n3 := n3 } a cap) T_api_Reply rr rb s4 ++ ((sb, strO []) :: Lv)) _ := hS
  repeat (first | refine SemW.run tblOk ?_ | refine jA (by omega) ?_ | refine jB (by omega) ?_ | refine jC (by omega) ?_ | refine jD (by omega) ?_ | refine jE rfl ?_ | refine jF (by omega) ?_ | (refine jG ?_; first | with_reducible (first | refine jH ?_ | refine jI ?_ | refine jJ ?_ | refine jK ?_ | refine jL ?_) | refine jM (by omega) ?_ | refine jN (by omega) ?_ | with_reducible refine jM rfl ?_ | refine jM (by assumption) ?_ | refine jN (by assumption) ?_ | refine jM (by decide) ?_ | refine jN (by decide) ?_) | refine jF (ptr_ok tblOk rfl rfl) ?_ | refine jO (fun _ => by kernel_rfl) ?_ | refine jF (by decide) ?_)
  refine SemW.draw tblOk mixed (fun w' => St w T0 (tgH ab (replyC { zRep with code := z0, ids := l, n0 := n0, n1 := n1, n2 := n2, n3 := n3 } a cap) T_api_Reply rr rb s4 ++ ((sb, strO []) :: Lv)) w') [8] [0, 1, 2, 3, 5, 6, 7, 4, 8] (by kernel_rfl) hS.drew ?_
  have hS := hS.drew
  repeat (first | refine SemW.run tblOk ?_ | refine jA (by omega) ?_ | refine jB (by omega) ?_ | refine jC (by omega) ?_ | refine jD (by omega) ?_ | refine jE rfl ?_ | refine jF (by omega) ?_ | (refine jG ?_; first | with_reducible (first | refine jH ?_ | refine jI ?_ | refine jJ ?_ | refine jK ?_ | refine jL ?_) | refine jM (by omega) ?_ | refine jN (by omega) ?_ | with_reducible refine jM rfl ?_ | refine jM (by assumption) ?_ | refine jN (by assumption) ?_ | refine jM (by decide) ?_ | refine jN (by decide) ?_) | refine jF (ptr_ok tblOk rfl rfl) ?_ | refine jO (fun _ => by kernel_rfl) ?_ | refine jF (by decide) ?_ | refine hS.ldC rfl ?_ | refine hS.ldnC rfl ?_)
  refine hS.al ?_
  intro q w3 _ hS
  refine Chk.mk (hS.sub (List.sublist_cons_self _ _)) ?_
  repeat (first | refine SemW.run tblOk ?_ | refine jA (by omega) ?_ | refine jB (by omega) ?_ | refine jC (by omega) ?_ | refine jD (by omega) ?_ | refine jE rfl ?_ | refine jF (by omega) ?_ | (refine jG ?_; first | with_reducible (first | refine jH ?_ | refine jI ?_ | refine jJ ?_ | refine jK ?_ | refine jL ?_) | refine jM (by omega) ?_ | refine jN (by omega) ?_ | with_reducible refine jM rfl ?_ | refine jM (by assumption) ?_ | refine jN (by assumption) ?_ | refine jM (by decide) ?_ | refine jN (by decide) ?_) | refine jF (ptr_ok tblOk rfl rfl) ?_ | refine jO (fun _ => by kernel_rfl) ?_ | refine jF (by decide) ?_ | refine hS.ldC rfl ?_ | refine hS.ldnC rfl ?_)
  refine InvG.mk ⟨f_wire_reader_marks, ptr rr, by kernel_rfl, ?_⟩
  refine Cl.mono (rmarks_spec (b := ab) (s := s4) (hS.part (L := tgH ab (replyC { zRep with code := z0, ids := l, n0 := n0, n1 := n1, n2 := n2, n3 := n3 } a cap) T_api_Reply rr rb s4)) (by omega) (offs := [6]) (hS.arr (b := q) (show q ∉ [ab, rr, rb] from nodup_chunk (L := tgH ab (replyC { zRep with code := z0, ids := l, n0 := n0, n1 := n1, n2 := n2, n3 := n3 } a cap) T_api_Reply rr rb s4) hS)) (by simp) (by simp)) ?_
  rintro _ w4 hS'
  have hS := (hS.call (L := tgH ab (replyC { zRep with code := z0, ids := l, n0 := n0, n1 := n1, n2 := n2, n3 := n3 } a cap) T_api_Reply rr rb s4) hS').sub (List.sublist_cons_self _ _)
  obtain ⟨ov, hm⟩ := wMarks_cut1 s4
  have htl6 := wMarks_tlen 1 s4
  have hS : St w T0 (tgH ab (setL (replyC { zRep with code := z0, ids := l, n0 := n0, n1 := n1, n2 := n2, n3 := n3 } a cap) [6] ((wMarks 1 s4).1.map Value.bool)) T_api_Reply rr rb (wMarks 1 s4).2 ++ ((sb, strO []) :: Lv)) _ := hS
  rw [hm] at hS ⊢
  simp only at hS ⊢
  generalize (wMarks 1 s4).2 = s5 at hS htl6 ⊢
  have hS : St w T0 (tgH ab (replyC { zRep with code := z0, ids := l, n0 := n0, n1 := n1, n2 := n2, n3 := n3, over := ov } a cap) T_api_Reply rr rb s5 ++ ((sb, strO []) :: Lv)) _ := hS
  repeat (first | refine SemW.run tblOk ?_ | refine jA (by omega) ?_ | refine jB (by omega) ?_ | refine jC (by omega) ?_ | refine jD (by omega) ?_ | refine jE rfl ?_ | refine jF (by omega) ?_ | (refine jG ?_; first | with_reducible (first | refine jH ?_ | refine jI ?_ | refine jJ ?_ | refine jK ?_ | refine jL ?_) | refine jM (by omega) ?_ | refine jN (by omega) ?_ | with_reducible refine jM rfl ?_ | refine jM (by assumption) ?_ | refine jN (by assumption) ?_ | refine jM (by decide) ?_ | refine jN (by decide) ?_) | refine jF (ptr_ok tblOk rfl rfl) ?_ | refine jO (fun _ => by kernel_rfl) ?_ | refine jF (by decide) ?_)
  refine SemW.draw tblOk mixed (fun w' => St w T0 (tgH ab (replyC { zRep with code := z0, ids := l, n0 := n0, n1 := n1, n2 := n2, n3 := n3, over := ov } a cap) T_api_Reply rr rb s5 ++ ((sb, strO []) :: Lv)) w') [27] [0, 1, 2, 3, 4, 5, 6, 7, 8, 9, 10, 11, 12, 13, 14, 15, 16, 17, 18, 19, 20, 21, 22, 24, 25, 26, 23, 27] (by kernel_rfl) hS.drew ?_
  have hS := hS.drew
  repeat (first | refine SemW.run tblOk ?_ | refine jA (by omega) ?_ | refine jB (by omega) ?_ | refine jC (by omega) ?_ | refine jD (by omega) ?_ | refine jE rfl ?_ | refine jF (by omega) ?_ | (refine jG ?_; first | with_reducible (first | refine jH ?_ | refine jI ?_ | refine jJ ?_ | refine jK ?_ | refine jL ?_) | refine jM (by omega) ?_ | refine jN (by omega) ?_ | with_reducible refine jM rfl ?_ | refine jM (by assumption) ?_ | refine jN (by assumption) ?_ | refine jM (by decide) ?_ | refine jN (by decide) ?_) | refine jF (ptr_ok tblOk rfl rfl) ?_ | refine jO (fun _ => by kernel_rfl) ?_ | refine jF (by decide) ?_ | refine hS.ldC rfl ?_ | refine hS.ldnC rfl ?_)
  refine hS.al ?_
  intro q w3 _ hS
  refine Chk.mk (hS.sub (List.sublist_cons_self _ _)) ?_
  repeat (first | refine SemW.run tblOk ?_ | refine jA (by omega) ?_ | refine jB (by omega) ?_ | refine jC (by omega) ?_ | refine jD (by omega) ?_ | refine jE rfl ?_ | refine jF (by omega) ?_ | (refine jG ?_; first | with_reducible (first | refine jH ?_ | refine jI ?_ | refine jJ ?_ | refine jK ?_ | refine jL ?_) | refine jM (by omega) ?_ | refine jN (by omega) ?_ | with_reducible refine jM rfl ?_ | refine jM (by assumption) ?_ | refine jN (by assumption) ?_ | refine jM (by decide) ?_ | refine jN (by decide) ?_) | refine jF (ptr_ok tblOk rfl rfl) ?_ | refine jO (fun _ => by kernel_rfl) ?_ | refine jF (by decide) ?_ | refine hS.ldC rfl ?_ | refine hS.ldnC rfl ?_)
  refine InvG.mk ⟨f_wire_reader_int, ptr rr, by kernel_rfl, ?_⟩
  refine Cl.mono (rint_spec (b := ab) (s := s5) (hS.part (L := tgH ab (replyC { zRep with code := z0, ids := l, n0 := n0, n1 := n1, n2 := n2, n3 := n3, over := ov } a cap) T_api_Reply rr rb s5)) (by omega) (offs := [7, 8, 9, 14, 15, 16, 17]) (hS.arr (b := q) (show q ∉ [ab, rr, rb] from nodup_chunk (L := tgH ab (replyC { zRep with code := z0, ids := l, n0 := n0, n1 := n1, n2 := n2, n3 := n3, over := ov } a cap) T_api_Reply rr rb s5) hS)) (by simp) (by simp)) ?_
  rintro _ w4 hS'
  have hS := (hS.call (L := tgH ab (replyC { zRep with code := z0, ids := l, n0 := n0, n1 := n1, n2 := n2, n3 := n3, over := ov } a cap) T_api_Reply rr rb s5) hS').sub (List.sublist_cons_self _ _)
  obtain ⟨p0, p1, p2, p3, p4, p5, p6, hy7⟩ := wInts_cut7 s5
  have htl7 := wInts_tlen 7 s5
  have hS : St w T0 (tgH ab (setL (replyC { zRep with code := z0, ids := l, n0 := n0, n1 := n1, n2 := n2, n3 := n3, over := ov } a cap) [7, 8, 9, 14, 15, 16, 17] ((wInts 7 s5).1.map intV)) T_api_Reply rr rb (wInts 7 s5).2 ++ ((sb, strO []) :: Lv)) _ := hS
  rw [hy7] at hS ⊢
  simp only at hS ⊢
  generalize (wInts 7 s5).2 = s6 at hS htl7 ⊢
  have hS : St w T0 (tgH ab (replyC { zRep with code := z0, ids := l, n0 := n0, n1 := n1, n2 := n2, n3 := n3, over := ov, pax := { zPax with id := p0, flight := p1, cab := p2, cls := p3, status := p4, tick := p5, pass := p6 } } a cap) T_api_Reply rr rb s6 ++ ((sb, strO []) :: Lv)) _ := hS
  repeat (first | refine SemW.run tblOk ?_ | refine jA (by omega) ?_ | refine jB (by omega) ?_ | refine jC (by omega) ?_ | refine jD (by omega) ?_ | refine jE rfl ?_ | refine jF (by omega) ?_ | (refine jG ?_; first | with_reducible (first | refine jH ?_ | refine jI ?_ | refine jJ ?_ | refine jK ?_ | refine jL ?_) | refine jM (by omega) ?_ | refine jN (by omega) ?_ | with_reducible refine jM rfl ?_ | refine jM (by assumption) ?_ | refine jN (by assumption) ?_ | refine jM (by decide) ?_ | refine jN (by decide) ?_) | refine jF (ptr_ok tblOk rfl rfl) ?_ | refine jO (fun _ => by kernel_rfl) ?_ | refine jF (by decide) ?_)
  refine SemW.draw tblOk mixed (fun w' => St w T0 (tgH ab (replyC { zRep with code := z0, ids := l, n0 := n0, n1 := n1, n2 := n2, n3 := n3, over := ov, pax := { zPax with id := p0, flight := p1, cab := p2, cls := p3, status := p4, tick := p5, pass := p6 } } a cap) T_api_Reply rr rb s6 ++ ((sb, strO []) :: Lv)) w') [19] [0, 1, 2, 3, 4, 5, 6, 7, 8, 9, 10, 11, 12, 13, 14, 16, 17, 18, 15, 19] (by kernel_rfl) hS.drew ?_
  have hS := hS.drew
  repeat (first | refine SemW.run tblOk ?_ | refine jA (by omega) ?_ | refine jB (by omega) ?_ | refine jC (by omega) ?_ | refine jD (by omega) ?_ | refine jE rfl ?_ | refine jF (by omega) ?_ | (refine jG ?_; first | with_reducible (first | refine jH ?_ | refine jI ?_ | refine jJ ?_ | refine jK ?_ | refine jL ?_) | refine jM (by omega) ?_ | refine jN (by omega) ?_ | with_reducible refine jM rfl ?_ | refine jM (by assumption) ?_ | refine jN (by assumption) ?_ | refine jM (by decide) ?_ | refine jN (by decide) ?_) | refine jF (ptr_ok tblOk rfl rfl) ?_ | refine jO (fun _ => by kernel_rfl) ?_ | refine jF (by decide) ?_ | refine hS.ldC rfl ?_ | refine hS.ldnC rfl ?_)
  refine hS.al ?_
  intro q w3 _ hS
  refine Chk.mk (hS.sub (List.sublist_cons_self _ _)) ?_
  repeat (first | refine SemW.run tblOk ?_ | refine jA (by omega) ?_ | refine jB (by omega) ?_ | refine jC (by omega) ?_ | refine jD (by omega) ?_ | refine jE rfl ?_ | refine jF (by omega) ?_ | (refine jG ?_; first | with_reducible (first | refine jH ?_ | refine jI ?_ | refine jJ ?_ | refine jK ?_ | refine jL ?_) | refine jM (by omega) ?_ | refine jN (by omega) ?_ | with_reducible refine jM rfl ?_ | refine jM (by assumption) ?_ | refine jN (by assumption) ?_ | refine jM (by decide) ?_ | refine jN (by decide) ?_) | refine jF (ptr_ok tblOk rfl rfl) ?_ | refine jO (fun _ => by kernel_rfl) ?_ | refine jF (by decide) ?_ | refine hS.ldC rfl ?_ | refine hS.ldnC rfl ?_)
  refine InvG.mk ⟨f_wire_reader_marks, ptr rr, by kernel_rfl, ?_⟩
  refine Cl.mono (rmarks_spec (b := ab) (s := s6) (hS.part (L := tgH ab (replyC { zRep with code := z0, ids := l, n0 := n0, n1 := n1, n2 := n2, n3 := n3, over := ov, pax := { zPax with id := p0, flight := p1, cab := p2, cls := p3, status := p4, tick := p5, pass := p6 } } a cap) T_api_Reply rr rb s6)) (by omega) (offs := [10, 11, 12, 13]) (hS.arr (b := q) (show q ∉ [ab, rr, rb] from nodup_chunk (L := tgH ab (replyC { zRep with code := z0, ids := l, n0 := n0, n1 := n1, n2 := n2, n3 := n3, over := ov, pax := { zPax with id := p0, flight := p1, cab := p2, cls := p3, status := p4, tick := p5, pass := p6 } } a cap) T_api_Reply rr rb s6) hS)) (by simp) (by simp)) ?_
  rintro _ w4 hS'
  have hS := (hS.call (L := tgH ab (replyC { zRep with code := z0, ids := l, n0 := n0, n1 := n1, n2 := n2, n3 := n3, over := ov, pax := { zPax with id := p0, flight := p1, cab := p2, cls := p3, status := p4, tick := p5, pass := p6 } } a cap) T_api_Reply rr rb s6) hS').sub (List.sublist_cons_self _ _)
  obtain ⟨f0, f1, f2, f3, hm4⟩ := wMarks_cut4 s6
  have htl8 := wMarks_tlen 4 s6
  have hS : St w T0 (tgH ab (setL (replyC { zRep with code := z0, ids := l, n0 := n0, n1 := n1, n2 := n2, n3 := n3, over := ov, pax := { zPax with id := p0, flight := p1, cab := p2, cls := p3, status := p4, tick := p5, pass := p6 } } a cap) [10, 11, 12, 13] ((wMarks 4 s6).1.map Value.bool)) T_api_Reply rr rb (wMarks 4 s6).2 ++ ((sb, strO []) :: Lv)) _ := hS
  rw [hm4] at hS ⊢
  simp only at hS ⊢
  generalize (wMarks 4 s6).2 = s7 at hS htl8 ⊢
  have hS : St w T0 ((ab, repO { zRep with code := z0, ids := l, n0 := n0, n1 := n1, n2 := n2, n3 := n3, over := ov, pax := { zPax with id := p0, flight := p1, cab := p2, fit := f0, infant := f1, vol := f2, stb := f3, cls := p3, status := p4, tick := p5, pass := p6 } } a cap) :: ([(rr, wrdC rb s7.bad), (rb, rdC s7.t)] ++ ([(sb, strO [])] ++ Lv))) _ := hS
  repeat (first | refine SemW.run tblOk ?_ | refine jA (by omega) ?_ | refine jB (by omega) ?_ | refine jC (by omega) ?_ | refine jD (by omega) ?_ | refine jE rfl ?_ | refine jF (by omega) ?_ | (refine jG ?_; first | with_reducible (first | refine jH ?_ | refine jI ?_ | refine jJ ?_ | refine jK ?_ | refine jL ?_) | refine jM (by omega) ?_ | refine jN (by omega) ?_ | with_reducible refine jM rfl ?_ | refine jM (by assumption) ?_ | refine jN (by assumption) ?_ | refine jM (by decide) ?_ | refine jN (by decide) ?_) | refine jF (ptr_ok tblOk rfl rfl) ?_ | refine jO (fun _ => by kernel_rfl) ?_ | refine jF (by decide) ?_)
  have hS : St w T0 ((ab, repO { zRep with code := z0, ids := l, n0 := n0, n1 := n1, n2 := n2, n3 := n3, over := ov, pax := { zPax with id := p0, flight := p1, cab := p2, fit := f0, infant := f1, vol := f2, stb := f3, cls := p3, status := p4, tick := p5, pass := p6 } } a cap) :: (tgH sb [Str []] T_string rr rb s7 ++ Lv)) _ := hS.perm (List.Perm.cons _ (by rw [← List.append_assoc]; exact List.Perm.append_right Lv List.perm_append_comm))
  refine InvG.mk ⟨f_wire_reader_text, ptr rr, by kernel_rfl, ?_⟩
  refine Cl.mono (rtext_spec (b := sb) (s := s7) (o := 0) (hS.part (L := tgH sb [Str []] T_string rr rb s7)) (by omega) (by simp)) ?_
  rintro _ w4 hS'
  have hS := hS.call (L := tgH sb [Str []] T_string rr rb s7) hS'
  have htl9 := wText_tlen s7
  generalize wText s7 = y9 at hS htl9 ⊢
  obtain ⟨seat, s8⟩ := y9
  simp only at hS htl9 ⊢
  have hS : St w T0 ((ab, repO { zRep with code := z0, ids := l, n0 := n0, n1 := n1, n2 := n2, n3 := n3, over := ov, pax := { zPax with id := p0, flight := p1, cab := p2, fit := f0, infant := f1, vol := f2, stb := f3, cls := p3, status := p4, tick := p5, pass := p6 } } a cap) :: ([(sb, strO seat)] ++ ([(rr, wrdC rb s8.bad), (rb, rdC s8.t)] ++ Lv))) _ := hS
  have hS : St w T0 (tgH ab (replyC { zRep with code := z0, ids := l, n0 := n0, n1 := n1, n2 := n2, n3 := n3, over := ov, pax := { zPax with id := p0, flight := p1, cab := p2, fit := f0, infant := f1, vol := f2, stb := f3, cls := p3, status := p4, tick := p5, pass := p6 } } a cap) T_api_Reply rr rb s8 ++ ((sb, strO seat) :: Lv)) _ := hS.perm (List.Perm.cons _ (by rw [← List.append_assoc]; exact List.Perm.append_right Lv (List.perm_append_comm (l₁ := [(sb, strO seat)]))))
  repeat (first | refine SemW.run tblOk ?_ | refine jA (by omega) ?_ | refine jB (by omega) ?_ | refine jC (by omega) ?_ | refine jD (by omega) ?_ | refine jE rfl ?_ | refine jF (by omega) ?_ | (refine jG ?_; first | with_reducible (first | refine jH ?_ | refine jI ?_ | refine jJ ?_ | refine jK ?_ | refine jL ?_) | refine jM (by omega) ?_ | refine jN (by omega) ?_ | with_reducible refine jM rfl ?_ | refine jM (by assumption) ?_ | refine jN (by assumption) ?_ | refine jM (by decide) ?_ | refine jN (by decide) ?_) | refine jF (ptr_ok tblOk rfl rfl) ?_ | refine jO (fun _ => by kernel_rfl) ?_ | refine jF (by decide) ?_)
  refine SemW.draw tblOk mixed (fun w' => St w T0 (tgH ab (replyC { zRep with code := z0, ids := l, n0 := n0, n1 := n1, n2 := n2, n3 := n3, over := ov, pax := { zPax with id := p0, flight := p1, cab := p2, fit := f0, infant := f1, vol := f2, stb := f3, cls := p3, status := p4, tick := p5, pass := p6 } } a cap) T_api_Reply rr rb s8 ++ ((sb, strO seat) :: Lv)) w') [7] [0, 1, 2, 3, 4, 5, 6, 7] (by kernel_rfl) hS.drew ?_
  have hS := hS.drew
  repeat (first | refine SemW.run tblOk ?_ | refine jA (by omega) ?_ | refine jB (by omega) ?_ | refine jC (by omega) ?_ | refine jD (by omega) ?_ | refine jE rfl ?_ | refine jF (by omega) ?_ | (refine jG ?_; first | with_reducible (first | refine jH ?_ | refine jI ?_ | refine jJ ?_ | refine jK ?_ | refine jL ?_) | refine jM (by omega) ?_ | refine jN (by omega) ?_ | with_reducible refine jM rfl ?_ | refine jM (by assumption) ?_ | refine jN (by assumption) ?_ | refine jM (by decide) ?_ | refine jN (by decide) ?_) | refine jF (ptr_ok tblOk rfl rfl) ?_ | refine jO (fun _ => by kernel_rfl) ?_ | refine jF (by decide) ?_ | refine hS.ldC rfl ?_ | refine hS.ldnC rfl ?_)
  refine InvG.mk ⟨f_wire_reader_text, ptr rr, by kernel_rfl, ?_⟩
  refine Cl.mono (rtext_spec (b := ab) (s := s8) (o := 20) (hS.part (L := tgH ab (replyC { zRep with code := z0, ids := l, n0 := n0, n1 := n1, n2 := n2, n3 := n3, over := ov, pax := { zPax with id := p0, flight := p1, cab := p2, fit := f0, infant := f1, vol := f2, stb := f3, cls := p3, status := p4, tick := p5, pass := p6 } } a cap) T_api_Reply rr rb s8)) (by omega) (by simp)) ?_
  rintro _ w4 hS'
  have hS := hS.call (L := tgH ab (replyC { zRep with code := z0, ids := l, n0 := n0, n1 := n1, n2 := n2, n3 := n3, over := ov, pax := { zPax with id := p0, flight := p1, cab := p2, fit := f0, infant := f1, vol := f2, stb := f3, cls := p3, status := p4, tick := p5, pass := p6 } } a cap) T_api_Reply rr rb s8) hS'
  repeat (first | refine SemW.run tblOk ?_ | refine jA (by omega) ?_ | refine jB (by omega) ?_ | refine jC (by omega) ?_ | refine jD (by omega) ?_ | refine jE rfl ?_ | refine jF (by omega) ?_ | (refine jG ?_; first | with_reducible (first | refine jH ?_ | refine jI ?_ | refine jJ ?_ | refine jK ?_ | refine jL ?_) | refine jM (by omega) ?_ | refine jN (by omega) ?_ | with_reducible refine jM rfl ?_ | refine jM (by assumption) ?_ | refine jN (by assumption) ?_ | refine jM (by decide) ?_ | refine jN (by decide) ?_) | refine jF (ptr_ok tblOk rfl rfl) ?_ | refine jO (fun _ => by kernel_rfl) ?_ | refine jF (by decide) ?_)
  exact ⟨a, cap, Lv, hv, hS⟩
end Go.Proofs.YthpmmfapolcaiaaGreatDoor

/- Package wire: ReadReply. -/
namespace Go.Proofs.YthpmmfapolcaiaaGreatDoor
open Go Go.Eng Go.Proofs
def RepPost (o : Option ReplyM) (v : Value) (w w' : World) : Prop := match o with
  | none => v = .tuple ⟨[.agg ⟨replyC zRep none 0⟩, .int .i64 34]⟩ ∧ St w [] [] w'
  | some r => ∃ a cap L, v = .tuple ⟨[.agg ⟨replyC r a cap⟩, .int .i64 0]⟩ ∧ Vec T_int 1 a r.ids.length cap (r.ids.map intV) L ∧ St w [] L w'
def readR (t : Bytes) : Option ReplyM := (openS t).bind replyS
theorem withSeat_zero {r : ReplyM} (h1 : r.pax.num = 0) (h2 : r.pax.c = 0) : withSeat r 0 0 = r := by
  unfold withSeat
  rw [← h1, ← h2]
theorem wReply_seat (s : RB) : (wReply s).1.2.length ≤ s.t.length := by
  unfold wReply tk
  simp only
  exact Nat.le_trans (wText_size _) (Nat.le_trans (wMarks_tlen _ _) (Nat.le_trans (wInts_tlen _ _) (Nat.le_trans (wMarks_tlen _ _) (Nat.le_trans (wInts_tlen _ _) (Nat.le_trans (wInts_tlen _ _) (Nat.le_trans (wNum_tlen _ _) (wInts_tlen _ _)))))))
theorem wReply_zero (s : RB) : (wReply s).1.1.pax.num = 0 ∧ (wReply s).1.1.pax.c = 0 := by
  unfold wReply tk
  simp only
  exact ⟨trivial, trivial⟩
set_option maxHeartbeats 8000000 in
set_option maxRecDepth 4000 in
theorem ReadReply_spec {w : World} {t : Bytes} (ht : t.length ≤ 140737488355328) (hE : ErrVars w) : Cl Tryz.prog f_wire_ReadReply [Str t] w fun v w' => RepPost (readR t) v w w' := by
  have hS := St.start w
  unfold readR
  refine en_wire_ReadReply rfl ?_
  repeat (first | refine SemW.run tblOk ?_ | refine jA (by omega) ?_ | refine jB (by omega) ?_ | refine jC (by omega) ?_ | refine jD (by omega) ?_ | refine jE rfl ?_ | refine jF (by omega) ?_ | (refine jG ?_; first | with_reducible (first | refine jH ?_ | refine jI ?_ | refine jJ ?_ | refine jK ?_ | refine jL ?_) | refine jM (by omega) ?_ | refine jN (by omega) ?_ | with_reducible refine jM rfl ?_ | refine jM (by assumption) ?_ | refine jN (by assumption) ?_ | refine jM (by decide) ?_ | refine jN (by decide) ?_) | refine jF (ptr_ok tblOk rfl rfl) ?_ | refine jO (fun _ => by kernel_rfl) ?_ | refine jF (by decide) ?_)
  refine hS.al ?_
  intro b2 w1 _ hS
  repeat (first | refine SemW.run tblOk ?_ | refine jA (by omega) ?_ | refine jB (by omega) ?_ | refine jC (by omega) ?_ | refine jD (by omega) ?_ | refine jE rfl ?_ | refine jF (by omega) ?_ | (refine jG ?_; first | with_reducible (first | refine jH ?_ | refine jI ?_ | refine jJ ?_ | refine jK ?_ | refine jL ?_) | refine jM (by omega) ?_ | refine jN (by omega) ?_ | with_reducible refine jM rfl ?_ | refine jM (by assumption) ?_ | refine jN (by assumption) ?_ | refine jM (by decide) ?_ | refine jN (by decide) ?_) | refine jF (ptr_ok tblOk rfl rfl) ?_ | refine jO (fun _ => by kernel_rfl) ?_ | refine jF (by decide) ?_ | refine hS.ld rfl ?_ | refine hS.ldn rfl ?_ | (refine hS.st rfl rfl ?_; intro _ hS))
  refine Cl.mono (open_spec ht) ?_
  intro v w2 hO
  have hle : ∀ p, openS t = some p → p.length ≤ 65536 := fun p h => (openS_iff.1 h).2
  cases ho : openS t with
  | none =>
    rw [ho] at hO
    obtain ⟨rfl, hS'⟩ := hO
    have hS := hS.call0 hS'
    repeat (first | refine SemW.run tblOk ?_ | refine jA (by omega) ?_ | refine jB (by omega) ?_ | refine jC (by omega) ?_ | refine jD (by omega) ?_ | refine jE rfl ?_ | refine jF (by omega) ?_ | (refine jG ?_; first | with_reducible (first | refine jH ?_ | refine jI ?_ | refine jJ ?_ | refine jK ?_ | refine jL ?_) | refine jM (by omega) ?_ | refine jN (by omega) ?_ | with_reducible refine jM rfl ?_ | refine jM (by assumption) ?_ | refine jN (by assumption) ?_ | refine jM (by decide) ?_ | refine jN (by decide) ?_) | refine jF (ptr_ok tblOk rfl rfl) ?_ | refine jO (fun _ => by kernel_rfl) ?_ | refine jF (by decide) ?_ | refine hS.ld rfl ?_ | refine hS.ldn rfl ?_ | (refine hS.st rfl rfl ?_; intro _ hS))
    exact ⟨rfl, hS.nil⟩
  | some p =>
    rw [ho] at hO
    obtain ⟨rr, rb, rfl, hS'⟩ := hO
    have hpl := hle p ho
    have hS := hS.callNew hS'
    rw [Option.bind_some]
    unfold replyS tk
    simp only
    repeat (first | refine SemW.run tblOk ?_ | refine jA (by omega) ?_ | refine jB (by omega) ?_ | refine jC (by omega) ?_ | refine jD (by omega) ?_ | refine jE rfl ?_ | refine jF (by omega) ?_ | (refine jG ?_; first | with_reducible (first | refine jH ?_ | refine jI ?_ | refine jJ ?_ | refine jK ?_ | refine jL ?_) | refine jM (by omega) ?_ | refine jN (by omega) ?_ | with_reducible refine jM rfl ?_ | refine jM (by assumption) ?_ | refine jN (by assumption) ?_ | refine jM (by decide) ?_ | refine jN (by decide) ?_) | refine jF (ptr_ok tblOk rfl rfl) ?_ | refine jO (fun _ => by kernel_rfl) ?_ | refine jF (by decide) ?_ | refine hS.ld rfl ?_ | refine hS.ldn rfl ?_ | (refine hS.st rfl rfl ?_; intro _ hS))
    refine hS.al ?_
    intro ab w3 _ hS
    repeat (first | refine SemW.run tblOk ?_ | refine jA (by omega) ?_ | refine jB (by omega) ?_ | refine jC (by omega) ?_ | refine jD (by omega) ?_ | refine jE rfl ?_ | refine jF (by omega) ?_ | (refine jG ?_; first | with_reducible (first | refine jH ?_ | refine jI ?_ | refine jJ ?_ | refine jK ?_ | refine jL ?_) | refine jM (by omega) ?_ | refine jN (by omega) ?_ | with_reducible refine jM rfl ?_ | refine jM (by assumption) ?_ | refine jN (by assumption) ?_ | refine jM (by decide) ?_ | refine jN (by decide) ?_) | refine jF (ptr_ok tblOk rfl rfl) ?_ | refine jO (fun _ => by kernel_rfl) ?_ | refine jF (by decide) ?_ | refine hS.ld rfl ?_ | refine hS.ldn rfl ?_ | (refine hS.st rfl rfl ?_; intro _ hS))
    refine hS.al ?_
    intro sb w4 _ hS
    repeat (first | refine SemW.run tblOk ?_ | refine jA (by omega) ?_ | refine jB (by omega) ?_ | refine jC (by omega) ?_ | refine jD (by omega) ?_ | refine jE rfl ?_ | refine jF (by omega) ?_ | (refine jG ?_; first | with_reducible (first | refine jH ?_ | refine jI ?_ | refine jJ ?_ | refine jK ?_ | refine jL ?_) | refine jM (by omega) ?_ | refine jN (by omega) ?_ | with_reducible refine jM rfl ?_ | refine jM (by assumption) ?_ | refine jN (by assumption) ?_ | refine jM (by decide) ?_ | refine jN (by decide) ?_) | refine jF (ptr_ok tblOk rfl rfl) ?_ | refine jO (fun _ => by kernel_rfl) ?_ | refine jF (by decide) ?_ | refine hS.ld rfl ?_ | refine hS.ldn rfl ?_ | (refine hS.st rfl rfl ?_; intro _ hS))
    have hS : St w [] ([(sb, strO [])] ++ ([(ab, repO zRep none 0), (rr, wrdC rb false), (rb, rdC p)] ++ [(b2, repO zRep none 0)])) _ := hS
    have hS : St w [] (repH ab rr rb sb zRep none 0 ⟨p, false⟩ [] [] ++ [(b2, repO zRep none 0)]) _ := hS.perm (by rw [← List.append_assoc]; exact List.Perm.append_right _ List.perm_append_comm)
    refine Cl.mono (reply_rd (s := ⟨p, false⟩) (hS.part (L := repH ab rr rb sb zRep none 0 ⟨p, false⟩ [] [])) (by simp only; omega)) ?_
    rintro _ w5 ⟨a, cap, Lv, hv, hS'⟩
    have hx := wReply_seat ⟨p, false⟩
    obtain ⟨hz1, hz2⟩ := wReply_zero ⟨p, false⟩
    generalize wReply ⟨p, false⟩ = y at hS' hx hz1 hz2 hv ⊢
    obtain ⟨⟨rm, x⟩, t3, bad⟩ := y
    simp only at hS' hx hz1 hz2 hv ⊢
    have hS := hS.call (L := repH ab rr rb sb zRep none 0 ⟨p, false⟩ [] []) hS'
    have hS : St w [] ((ab, repO rm a cap) :: (rr, .cells ⟨[ptr rb, .bool bad]⟩ T_wire_reader (0, 0)) :: (rb, .cells ⟨[Str t3]⟩ T_pack_Reader (0, 0)) :: (sb, .cells ⟨[Str x]⟩ T_string (0, 0)) :: (Lv ++ [(b2, repO zRep none 0)])) _ := hS
    by_cases hx0 : x = []
    · have hss : seatS x = some (0, 0) := if_pos hx0
      rw [hss]
      simp only
      rw [withSeat_zero hz1 hz2]
      cases bad with
      | true =>
        rw [if_pos (.inl rfl)]
        repeat (first | refine SemW.run tblOk ?_ | refine jA (by omega) ?_ | refine jB (by omega) ?_ | refine jC (by omega) ?_ | refine jD (by omega) ?_ | refine jE rfl ?_ | refine jF (by omega) ?_ | (refine jG ?_; first | with_reducible (first | refine jH ?_ | refine jI ?_ | refine jJ ?_ | refine jK ?_ | refine jL ?_) | refine jM (by omega) ?_ | refine jN (by omega) ?_ | with_reducible refine jM rfl ?_ | refine jM (by assumption) ?_ | refine jN (by assumption) ?_ | refine jM (by decide) ?_ | refine jN (by decide) ?_) | refine jF (ptr_ok tblOk rfl rfl) ?_ | refine jO (fun _ => by kernel_rfl) ?_ | refine jF (by decide) ?_ | refine hS.ld rfl ?_ | refine hS.ldn rfl ?_ | (refine hS.st rfl rfl ?_; intro _ hS))
        exact ⟨rfl, hS.nil⟩
      | false =>
        by_cases ht3 : t3 = []
        · rw [if_neg (by rintro (h | h); (· cases h); exact h ht3)]
          repeat (first | refine SemW.run tblOk ?_ | refine jA (by omega) ?_ | refine jB (by omega) ?_ | refine jC (by omega) ?_ | refine jD (by omega) ?_ | refine jE rfl ?_ | refine jF (by omega) ?_ | (refine jG ?_; first | with_reducible (first | refine jH ?_ | refine jI ?_ | refine jJ ?_ | refine jK ?_ | refine jL ?_) | refine jM (by omega) ?_ | refine jN (by omega) ?_ | with_reducible refine jM rfl ?_ | refine jM (by assumption) ?_ | refine jN (by assumption) ?_ | refine jM (by decide) ?_ | refine jN (by decide) ?_) | refine jF (ptr_ok tblOk rfl rfl) ?_ | refine jO (fun _ => by kernel_rfl) ?_ | refine jF (by decide) ?_ | refine hS.ld rfl ?_ | refine hS.ldn rfl ?_ | (refine hS.st rfl rfl ?_; intro _ hS))
          refine Cl.mono (RDone_spec (t := t3) (hS.part (L := [(rb, rdC t3)]))) ?_
          rintro _ w9 ⟨rfl, hS'⟩
          have hS := hS.call0 hS'
          rw [decide_eq_true ht3]
          repeat (first | refine SemW.run tblOk ?_ | refine jA (by omega) ?_ | refine jB (by omega) ?_ | refine jC (by omega) ?_ | refine jD (by omega) ?_ | refine jE rfl ?_ | refine jF (by omega) ?_ | (refine jG ?_; first | with_reducible (first | refine jH ?_ | refine jI ?_ | refine jJ ?_ | refine jK ?_ | refine jL ?_) | refine jM (by omega) ?_ | refine jN (by omega) ?_ | with_reducible refine jM rfl ?_ | refine jM (by assumption) ?_ | refine jN (by assumption) ?_ | refine jM (by decide) ?_ | refine jN (by decide) ?_) | refine jF (ptr_ok tblOk rfl rfl) ?_ | refine jO (fun _ => by kernel_rfl) ?_ | refine jF (by decide) ?_ | refine hS.ld rfl ?_ | refine hS.ldn rfl ?_ | (refine hS.st rfl rfl ?_; intro _ hS))
          exact ⟨a, cap, Lv, rfl, hv, hS.sub ((List.sublist_append_left Lv _).trans ((List.sublist_cons_self _ _).trans ((List.sublist_cons_self _ _).trans ((List.sublist_cons_self _ _).trans (List.sublist_cons_self _ _)))))⟩
        · rw [if_pos (.inr ht3)]
          repeat (first | refine SemW.run tblOk ?_ | refine jA (by omega) ?_ | refine jB (by omega) ?_ | refine jC (by omega) ?_ | refine jD (by omega) ?_ | refine jE rfl ?_ | refine jF (by omega) ?_ | (refine jG ?_; first | with_reducible (first | refine jH ?_ | refine jI ?_ | refine jJ ?_ | refine jK ?_ | refine jL ?_) | refine jM (by omega) ?_ | refine jN (by omega) ?_ | with_reducible refine jM rfl ?_ | refine jM (by assumption) ?_ | refine jN (by assumption) ?_ | refine jM (by decide) ?_ | refine jN (by decide) ?_) | refine jF (ptr_ok tblOk rfl rfl) ?_ | refine jO (fun _ => by kernel_rfl) ?_ | refine jF (by decide) ?_ | refine hS.ld rfl ?_ | refine hS.ldn rfl ?_ | (refine hS.st rfl rfl ?_; intro _ hS))
          refine Cl.mono (RDone_spec (t := t3) (hS.part (L := [(rb, rdC t3)]))) ?_
          rintro _ w9 ⟨rfl, hS'⟩
          have hS := hS.call0 hS'
          rw [decide_eq_false ht3]
          repeat (first | refine SemW.run tblOk ?_ | refine jA (by omega) ?_ | refine jB (by omega) ?_ | refine jC (by omega) ?_ | refine jD (by omega) ?_ | refine jE rfl ?_ | refine jF (by omega) ?_ | (refine jG ?_; first | with_reducible (first | refine jH ?_ | refine jI ?_ | refine jJ ?_ | refine jK ?_ | refine jL ?_) | refine jM (by omega) ?_ | refine jN (by omega) ?_ | with_reducible refine jM rfl ?_ | refine jM (by assumption) ?_ | refine jN (by assumption) ?_ | refine jM (by decide) ?_ | refine jN (by decide) ?_) | refine jF (ptr_ok tblOk rfl rfl) ?_ | refine jO (fun _ => by kernel_rfl) ?_ | refine jF (by decide) ?_ | refine hS.ld rfl ?_ | refine hS.ldn rfl ?_ | (refine hS.st rfl rfl ?_; intro _ hS))
          exact ⟨rfl, hS.nil⟩
    · have hss : seatS x = parseB x := if_neg hx0
      rw [hss]
      repeat (first | refine SemW.run tblOk ?_ | refine jA (by omega) ?_ | refine jB (by omega) ?_ | refine jC (by omega) ?_ | refine jD (by omega) ?_ | refine jE rfl ?_ | refine jF (by omega) ?_ | (refine jG ?_; first | with_reducible (first | refine jH ?_ | refine jI ?_ | refine jJ ?_ | refine jK ?_ | refine jL ?_) | refine jM (by omega) ?_ | refine jN (by omega) ?_ | with_reducible refine jM rfl ?_ | refine jM (by assumption) ?_ | refine jN (by assumption) ?_ | refine jM (by decide) ?_ | refine jN (by decide) ?_) | refine jF (ptr_ok tblOk rfl rfl) ?_ | refine jO (fun _ => by kernel_rfl) ?_ | refine jF (by decide) ?_ | refine hS.ld rfl ?_ | refine hS.ldn rfl ?_ | (refine hS.st rfl rfl ?_; intro _ hS))
      refine Cl.mono (Parse_spec (s := x) (by omega) (hE.keep hS (by simp) (by simp))) ?_
      rintro _ w6 ⟨rfl, hS'⟩
      have hS := hS.call0 hS'
      unfold parseO seatAt
      cases hp : parseB x with
      | none =>
        repeat (first | refine SemW.run tblOk ?_ | refine jA (by omega) ?_ | refine jB (by omega) ?_ | refine jC (by omega) ?_ | refine jD (by omega) ?_ | refine jE rfl ?_ | refine jF (by omega) ?_ | (refine jG ?_; first | with_reducible (first | refine jH ?_ | refine jI ?_ | refine jJ ?_ | refine jK ?_ | refine jL ?_) | refine jM (by omega) ?_ | refine jN (by omega) ?_ | with_reducible refine jM rfl ?_ | refine jM (by assumption) ?_ | refine jN (by assumption) ?_ | refine jM (by decide) ?_ | refine jN (by decide) ?_) | refine jF (ptr_ok tblOk rfl rfl) ?_ | refine jO (fun _ => by kernel_rfl) ?_ | refine jF (by decide) ?_ | refine hS.ld rfl ?_ | refine hS.ldn rfl ?_ | (refine hS.st rfl rfl ?_; intro _ hS))
        refine hS.al ?_
        intro b8 w7 _ hS
        cases bad with
        | true =>
          repeat (first | refine SemW.run tblOk ?_ | refine jA (by omega) ?_ | refine jB (by omega) ?_ | refine jC (by omega) ?_ | refine jD (by omega) ?_ | refine jE rfl ?_ | refine jF (by omega) ?_ | (refine jG ?_; first | with_reducible (first | refine jH ?_ | refine jI ?_ | refine jJ ?_ | refine jK ?_ | refine jL ?_) | refine jM (by omega) ?_ | refine jN (by omega) ?_ | with_reducible refine jM rfl ?_ | refine jM (by assumption) ?_ | refine jN (by assumption) ?_ | refine jM (by decide) ?_ | refine jN (by decide) ?_) | refine jF (ptr_ok tblOk rfl rfl) ?_ | refine jO (fun _ => by kernel_rfl) ?_ | refine jF (by decide) ?_ | refine hS.ld rfl ?_ | refine hS.ldn rfl ?_ | (refine hS.st rfl rfl ?_; intro _ hS))
          exact ⟨rfl, hS.nil⟩
        | false =>
          repeat (first | refine SemW.run tblOk ?_ | refine jA (by omega) ?_ | refine jB (by omega) ?_ | refine jC (by omega) ?_ | refine jD (by omega) ?_ | refine jE rfl ?_ | refine jF (by omega) ?_ | (refine jG ?_; first | with_reducible (first | refine jH ?_ | refine jI ?_ | refine jJ ?_ | refine jK ?_ | refine jL ?_) | refine jM (by omega) ?_ | refine jN (by omega) ?_ | with_reducible refine jM rfl ?_ | refine jM (by assumption) ?_ | refine jN (by assumption) ?_ | refine jM (by decide) ?_ | refine jN (by decide) ?_) | refine jF (ptr_ok tblOk rfl rfl) ?_ | refine jO (fun _ => by kernel_rfl) ?_ | refine jF (by decide) ?_ | refine hS.ld rfl ?_ | refine hS.ldn rfl ?_ | (refine hS.st rfl rfl ?_; intro _ hS))
          exact ⟨rfl, hS.nil⟩
      | some z =>
        obtain ⟨n, c⟩ := z
        simp only
        repeat (first | refine SemW.run tblOk ?_ | refine jA (by omega) ?_ | refine jB (by omega) ?_ | refine jC (by omega) ?_ | refine jD (by omega) ?_ | refine jE rfl ?_ | refine jF (by omega) ?_ | (refine jG ?_; first | with_reducible (first | refine jH ?_ | refine jI ?_ | refine jJ ?_ | refine jK ?_ | refine jL ?_) | refine jM (by omega) ?_ | refine jN (by omega) ?_ | with_reducible refine jM rfl ?_ | refine jM (by assumption) ?_ | refine jN (by assumption) ?_ | refine jM (by decide) ?_ | refine jN (by decide) ?_) | refine jF (ptr_ok tblOk rfl rfl) ?_ | refine jO (fun _ => by kernel_rfl) ?_ | refine jF (by decide) ?_ | refine hS.ld rfl ?_ | refine hS.ldn rfl ?_ | (refine hS.st rfl rfl ?_; intro _ hS))
        refine hS.al ?_
        intro b8 w7 _ hS
        cases bad with
        | true =>
          rw [if_pos (.inl rfl)]
          repeat (first | refine SemW.run tblOk ?_ | refine jA (by omega) ?_ | refine jB (by omega) ?_ | refine jC (by omega) ?_ | refine jD (by omega) ?_ | refine jE rfl ?_ | refine jF (by omega) ?_ | (refine jG ?_; first | with_reducible (first | refine jH ?_ | refine jI ?_ | refine jJ ?_ | refine jK ?_ | refine jL ?_) | refine jM (by omega) ?_ | refine jN (by omega) ?_ | with_reducible refine jM rfl ?_ | refine jM (by assumption) ?_ | refine jN (by assumption) ?_ | refine jM (by decide) ?_ | refine jN (by decide) ?_) | refine jF (ptr_ok tblOk rfl rfl) ?_ | refine jO (fun _ => by kernel_rfl) ?_ | refine jF (by decide) ?_ | refine hS.ld rfl ?_ | refine hS.ldn rfl ?_ | (refine hS.st rfl rfl ?_; intro _ hS))
          exact ⟨rfl, hS.nil⟩
        | false =>
          repeat (first | refine SemW.run tblOk ?_ | refine jA (by omega) ?_ | refine jB (by omega) ?_ | refine jC (by omega) ?_ | refine jD (by omega) ?_ | refine jE rfl ?_ | refine jF (by omega) ?_ | (refine jG ?_; first | with_reducible (first | refine jH ?_ | refine jI ?_ | refine jJ ?_ | refine jK ?_ | refine jL ?_) | refine jM (by omega) ?_ | refine jN (by omega) ?_ | with_reducible refine jM rfl ?_ | refine jM (by assumption) ?_ | refine jN (by assumption) ?_ | refine jM (by decide) ?_ | refine jN (by decide) ?_) | refine jF (ptr_ok tblOk rfl rfl) ?_ | refine jO (fun _ => by kernel_rfl) ?_ | refine jF (by decide) ?_ | refine hS.ld rfl ?_ | refine hS.ldn rfl ?_ | (refine hS.st rfl rfl ?_; intro _ hS))
          by_cases ht3 : t3 = []
          · rw [if_neg (by rintro (h | h); (· cases h); exact h ht3)]
            repeat (first | refine SemW.run tblOk ?_ | refine jA (by omega) ?_ | refine jB (by omega) ?_ | refine jC (by omega) ?_ | refine jD (by omega) ?_ | refine jE rfl ?_ | refine jF (by omega) ?_ | (refine jG ?_; first | with_reducible (first | refine jH ?_ | refine jI ?_ | refine jJ ?_ | refine jK ?_ | refine jL ?_) | refine jM (by omega) ?_ | refine jN (by omega) ?_ | with_reducible refine jM rfl ?_ | refine jM (by assumption) ?_ | refine jN (by assumption) ?_ | refine jM (by decide) ?_ | refine jN (by decide) ?_) | refine jF (ptr_ok tblOk rfl rfl) ?_ | refine jO (fun _ => by kernel_rfl) ?_ | refine jF (by decide) ?_ | refine hS.ld rfl ?_ | refine hS.ldn rfl ?_ | (refine hS.st rfl rfl ?_; intro _ hS))
            refine Cl.mono (RDone_spec (t := t3) (hS.part (L := [(rb, rdC t3)]))) ?_
            rintro _ w9 ⟨rfl, hS'⟩
            have hS := hS.call0 hS'
            rw [decide_eq_true ht3]
            repeat (first | refine SemW.run tblOk ?_ | refine jA (by omega) ?_ | refine jB (by omega) ?_ | refine jC (by omega) ?_ | refine jD (by omega) ?_ | refine jE rfl ?_ | refine jF (by omega) ?_ | (refine jG ?_; first | with_reducible (first | refine jH ?_ | refine jI ?_ | refine jJ ?_ | refine jK ?_ | refine jL ?_) | refine jM (by omega) ?_ | refine jN (by omega) ?_ | with_reducible refine jM rfl ?_ | refine jM (by assumption) ?_ | refine jN (by assumption) ?_ | refine jM (by decide) ?_ | refine jN (by decide) ?_) | refine jF (ptr_ok tblOk rfl rfl) ?_ | refine jO (fun _ => by kernel_rfl) ?_ | refine jF (by decide) ?_ | refine hS.ld rfl ?_ | refine hS.ldn rfl ?_ | (refine hS.st rfl rfl ?_; intro _ hS))
            exact ⟨a, cap, Lv, rfl, hv, hS.sub ((List.sublist_append_left Lv _).trans ((List.sublist_cons_self _ _).trans ((List.sublist_cons_self _ _).trans ((List.sublist_cons_self _ _).trans ((List.sublist_cons_self _ _).trans (List.sublist_cons_self _ _))))))⟩
          · rw [if_pos (.inr ht3)]
            repeat (first | refine SemW.run tblOk ?_ | refine jA (by omega) ?_ | refine jB (by omega) ?_ | refine jC (by omega) ?_ | refine jD (by omega) ?_ | refine jE rfl ?_ | refine jF (by omega) ?_ | (refine jG ?_; first | with_reducible (first | refine jH ?_ | refine jI ?_ | refine jJ ?_ | refine jK ?_ | refine jL ?_) | refine jM (by omega) ?_ | refine jN (by omega) ?_ | with_reducible refine jM rfl ?_ | refine jM (by assumption) ?_ | refine jN (by assumption) ?_ | refine jM (by decide) ?_ | refine jN (by decide) ?_) | refine jF (ptr_ok tblOk rfl rfl) ?_ | refine jO (fun _ => by kernel_rfl) ?_ | refine jF (by decide) ?_ | refine hS.ld rfl ?_ | refine hS.ldn rfl ?_ | (refine hS.st rfl rfl ?_; intro _ hS))
            refine Cl.mono (RDone_spec (t := t3) (hS.part (L := [(rb, rdC t3)]))) ?_
            rintro _ w9 ⟨rfl, hS'⟩
            have hS := hS.call0 hS'
            rw [decide_eq_false ht3]
            repeat (first | refine SemW.run tblOk ?_ | refine jA (by omega) ?_ | refine jB (by omega) ?_ | refine jC (by omega) ?_ | refine jD (by omega) ?_ | refine jE rfl ?_ | refine jF (by omega) ?_ | (refine jG ?_; first | with_reducible (first | refine jH ?_ | refine jI ?_ | refine jJ ?_ | refine jK ?_ | refine jL ?_) | refine jM (by omega) ?_ | refine jN (by omega) ?_ | with_reducible refine jM rfl ?_ | refine jM (by assumption) ?_ | refine jN (by assumption) ?_ | refine jM (by decide) ?_ | refine jN (by decide) ?_) | refine jF (ptr_ok tblOk rfl rfl) ?_ | refine jO (fun _ => by kernel_rfl) ?_ | refine jF (by decide) ?_ | refine hS.ld rfl ?_ | refine hS.ldn rfl ?_ | (refine hS.st rfl rfl ?_; intro _ hS))
            exact ⟨rfl, hS.nil⟩
end Go.Proofs.YthpmmfapolcaiaaGreatDoor

/- Replies and their bytes: plain laws of reading. -/
namespace Go.Proofs.YthpmmfapolcaiaaGreatDoor
open Go Go.Eng Go.Proofs
theorem readR_frame {r : ReplyM} (hr : r.ok) (h : RightR r) (hl : (replyB r).length ≤ 65536) : readR (frameB (replyB r)) = some r := by
  unfold readR
  rw [openS_frame hl, Option.bind_some]
  exact (replyS_iff (by omega)).2 ⟨rfl, hr, h⟩
theorem readR_some {t : Bytes} {r : ReplyM} (h : readR t = some r) : t = frameB (replyB r) ∧ r.ok ∧ RightR r ∧ (replyB r).length ≤ 65536 := by
  unfold readR at h
  cases ho : openS t with
  | none => rw [ho] at h; cases h
  | some p =>
    rw [ho, Option.bind_some] at h
    obtain ⟨h1, h2⟩ := openS_iff.1 ho
    obtain ⟨h3, h4, h5⟩ := (replyS_iff (by omega)).1 h
    exact ⟨by rw [h1, h3], h4, h5, by rw [← h3]; exact h2⟩
theorem replyB_sizes (r : ReplyM) : r.ids.length ≤ (replyB r).length ∧ r.text.length ≤ (replyB r).length := by
  have h := intsB_min r.ids
  unfold replyB
  simp only [List.length_append, textB]
  omega
theorem argR_of {w : World} {r : ReplyM} {a : Option Addr} {cap : Nat} (h : Arr w [] a (r.ids.map intV)) (hr : r.ok) (hl : (replyB r).length ≤ 65536) : ArgR w r a cap := by
  have := replyB_sizes r
  exact ⟨h, hr, by omega, by omega⟩
theorem repE_of {r : ReplyM} (h : RightR r) (hl : (replyB r).length ≤ 65536) : repOut r = [Str (frameB (replyB r)), .int .i64 0] := by unfold repOut; rw [if_pos ⟨h, hl⟩]
theorem repE_not {r : ReplyM} (h : ¬ (RightR r ∧ (replyB r).length ≤ 65536)) : repOut r = [Str [], .int .i64 34] := by unfold repOut; exact if_neg h
end Go.Proofs.YthpmmfapolcaiaaGreatDoor
