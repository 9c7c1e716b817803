/- Texts of this claim, one behind the other. -/
import Derived.Test.YtinkmidjbdnibaaGreatDoorZ2
import Derived.Test.YtinkmidjbdnibaaGreatDoorZ0
import Derived.Lib.Bytealg
import Derived.Test.YtinkmidjbdnibaaGreatDoorZ1
namespace Go.Proofs.YtinkmidjbdnibaaGreatDoor
open Go Go.Eng Go.Proofs
inductive EqsIn : Heap → List EquipM → List Value → Prop
  | nil : EqsIn [] [] []
  | snoc {L Le : Heap} {es : List EquipM} {xs : List Value} {e : EquipM} {a : Option Addr} {cap : Nat} (h : EqsIn L es xs) (hv : Vec T_api_Row 5 a e.rows.length cap (e.rows.flatMap rowC) Le) : EqsIn (Le ++ L) (es ++ [e]) (xs ++ [.int .i64 e.id, .slice a e.rows.length cap])
structure StOwn (s : StateM) (a b c : Option Addr) (ca cb cc : Nat) (La Lr Lb Lc : Heap) : Prop where
  eqs : ∃ xs, Vec T_api_Equip 2 a s.eqs.length ca xs La ∧ EqsIn Lr s.eqs xs
  fls : Vec T_api_Flight 8 b s.fls.length cb (s.fls.flatMap flC) Lb
  pxs : Vec T_api_Pax 13 c s.pxs.length cc (s.pxs.flatMap paxC) Lc
abbrev stH (sb : Nat) (s : StateM) (a b c : Option Addr) (ca cb cc : Nat) (La Lr Lb Lc : Heap) : Heap := (sb, .cells ⟨[.slice a s.eqs.length ca, .slice b s.fls.length cb, .slice c s.pxs.length cc]⟩ T_api_State (0, 0)) :: (La ++ (Lr ++ (Lb ++ Lc)))
def RecPost (o : OpM) (s : StateM) (sb : Nat) (T : List Nat) (v : Value) (w w' : World) : Prop :=
  (v = .bool true ∧ ∃ R, recOk R ∧ rop (recR R) = o ∧ ∃ a b c ca cb cc La Lr Lb Lc, StOwn (addR s R) a b c ca cb cc La Lr Lb Lc ∧ St w T (stH sb (addR s R) a b c ca cb cc La Lr Lb Lc) w') ∨
  (v = .bool false ∧ (∀ R, recOk R → rop (recR R) ≠ o) ∧ St w T [] w')
theorem noKey {ps : List PartM} {k : Bytes} (h : Spl k ps) (hp : ∀ c n, ps ≠ [.text [c], .num n]) : ∀ qs, Spl k qs → ∀ (c : UInt8) (n : Int), (c = 101 ∨ c = 102 ∨ c = 112) → qs ≠ [.text [c], .num n] := fun qs hq c n _ => by
  rw [spl_inj hq h]; exact hp c n
theorem subS {B : Heap} (A : Heap) {x : Nat × Obj} (h : [x].Sublist B) : [x].Sublist (A ++ B) := h.trans (List.sublist_append_right _ _)
theorem heap_mv (x : Nat × Obj) (A B C R : Heap) : (A ++ (x :: (B ++ (C ++ R)))).Perm (x :: (B ++ ((A ++ C) ++ R))) := by
  refine List.perm_middle.trans (List.Perm.cons x ?_)
  rw [List.append_assoc A C R, ← List.append_assoc A B, ← List.append_assoc B A]
  exact List.Perm.append_right _ List.perm_append_comm
theorem subRA {L A : Heap} {x X1 X2 : Nat × Obj} {B : Heap} : (L ++ B).Sublist (x :: (A ++ (L ++ (X1 :: X2 :: B)))) :=
  List.Sublist.cons _ ((List.Sublist.append_left (List.Sublist.cons _ (List.Sublist.cons _ (List.Sublist.refl _))) L).trans (List.sublist_append_right _ _))
theorem subB {A : Heap} {x X1 X2 : Nat × Obj} {B : Heap} : B.Sublist (x :: (A ++ (X1 :: X2 :: B))) :=
  List.Sublist.cons _ ((List.Sublist.cons _ (List.Sublist.cons _ (List.Sublist.refl _))).trans (List.sublist_append_right _ _))
set_option maxRecDepth 4000 in
set_option maxHeartbeats 8000000 in
theorem record_spec {w : World} {sb : Nat} {s : StateM} {a b c : Option Addr} {ca cb cc : Nat} {La Lr Lb Lc : Heap} {o : OpM} (hO : StOwn s a b c ca cb cc La Lr Lb Lc) (hh : Holds (stH sb s a b c ca cb cc La Lr Lb Lc) w) (hk : o.1.length ≤ 1048576) (hv : o.2.2.length ≤ 100000000) (hn : s.eqs.length + s.fls.length + s.pxs.length ≤ 1048576) (hE : ErrVars w) (hT : errG0 ∉ keys (stH sb s a b c ca cb cc La Lr Lb Lc) ∧ errG1 ∉ keys (stH sb s a b c ca cb cc La Lr Lb Lc)) :
    Cl Tryz.prog f_rows_record [ptr sb, .agg ⟨opDC o⟩] w fun v w' => RecPost o s sb (keys (stH sb s a b c ca cb cc La Lr Lb Lc)) v w w' := by
  have hS := St.enter hh
  generalize keys (stH sb s a b c ca cb cc La Lr Lb Lc) = T0 at hS hT ⊢
  obtain ⟨k, d, v⟩ := o
  simp only at hk hv
  unfold opDC
  refine en_rows_record rfl ?_
  refine jq ⟨?_⟩
  refine hS.al ?_
  intro b3 w1 _ hS
  (repeat (refine jt ⟨?_⟩; refine hS.st rfl rfl ?_; intro _ hS)); refine jt ⟨?_⟩
  refine Cl.mono (OSplit_spec hk) ?_
  rintro _ w2 (⟨ps, ap, cp, Lp, rfl, hsp, hvp, hS'⟩ | ⟨rfl, hno, hS'⟩)
  rotate_left
  · have hS := hS.call0 hS'
    (repeat (refine jt ⟨?_⟩; refine hS.st rfl rfl ?_; intro _ hS)); refine jt ⟨?_⟩
    exact .inr ⟨rfl, noRec_key fun qs hq => absurd hq (hno qs), hS.nil⟩
  have hS := hS.callNew hS'
  cases d with
  | true =>
    (repeat (refine jt ⟨?_⟩; refine hS.st rfl rfl ?_; intro _ hS)); refine jt ⟨?_⟩
    exact .inr ⟨rfl, noRec_dead rfl, hS.nil⟩
  | false =>
  by_cases hl : ps.length = 2
  rotate_left
  · (repeat (refine jt ⟨?_⟩; refine hS.st rfl rfl ?_; intro _ hS)); refine jt ⟨?_⟩
    exact .inr ⟨rfl, noRec_key (noKey hsp (by intro c n e; rw [e] at hl; exact hl rfl)), hS.nil⟩
  obtain ⟨p, q, rfl⟩ : ∃ p q, ps = [p, q] := by
    match ps, hl with
    | [p, q], _ => exact ⟨p, q, rfl⟩
  rcases hvp.inv with ⟨-, h0, -⟩ | ⟨g, l', rfl, hxx, hl', hnc, rfl⟩
  · cases h0
  cases p with
  | num n1 =>
    have hS : St w T0 ((g, .cells ⟨.int .i64 1 :: .int .i64 n1 :: Str [] :: (partC q ++ l')⟩ T_api_Part (0, 0)) :: (b3, .cells ⟨[Str k, .bool false, Str v]⟩ T_api_Op (0, 0)) :: stH sb s a b c ca cb cc La Lr Lb Lc) w2 := by
      have e : [PartM.num n1, q].flatMap partC ++ l' = .int .i64 1 :: .int .i64 n1 :: Str [] :: (partC q ++ l') := by simp [partC]
      rw [e] at hS; exact hS
    (repeat (refine jt ⟨?_⟩; refine hS.st rfl rfl ?_; intro _ hS)); refine jt ⟨?_⟩
    exact .inr ⟨rfl, noRec_key (noKey hsp (by intro c n e; cases e)), hS.nil⟩
  | text t =>
    cases q with
    | text t2 =>
      (repeat (refine jt ⟨?_⟩; refine hS.st rfl rfl ?_; intro _ hS)); refine jt ⟨?_⟩
      exact .inr ⟨rfl, noRec_key (noKey hsp (by intro c n e; cases e)), hS.nil⟩
    | num n =>
      have hn64 : i64b n := hsp.2 (.num n) (by simp)
      have hS : St w T0 ((g, .cells ⟨.int .i64 2 :: .int .i64 0 :: Str t :: .int .i64 1 :: .int .i64 n :: Str [] :: l'⟩ T_api_Part (0, 0)) :: (b3, .cells ⟨[Str k, .bool false, Str v]⟩ T_api_Op (0, 0)) :: stH sb s a b c ca cb cc La Lr Lb Lc) w2 := hS
      (repeat (refine jt ⟨?_⟩; refine hS.st rfl rfl ?_; intro _ hS)); refine jt ⟨?_⟩
      refine Cl.mono PRead_spec ?_
      rintro _ w3 ⟨rb, rfl, hS'⟩
      have hS := hS.callNew hS'
      (repeat (refine jt ⟨?_⟩; refine hS.st rfl rfl ?_; intro _ hS)); refine jt ⟨?_⟩
      refine hS.al ?_
      intro xr w4 _ hS
      (repeat (refine jt ⟨?_⟩; refine hS.st rfl rfl ?_; intro _ hS)); refine jt ⟨?_⟩
      have hS : St w T0 (rrH xr rb ⟨v, false⟩ ++ ((g, .cells ⟨.int .i64 2 :: .int .i64 0 :: Str t :: .int .i64 1 :: .int .i64 n :: Str [] :: l'⟩ T_api_Part (0, 0)) :: (b3, .cells ⟨[Str k, .bool false, Str v]⟩ T_api_Op (0, 0)) :: stH sb s a b c ca cb cc La Lr Lb Lc)) _ := hS
      generalize (g, Obj.cells ⟨.int .i64 2 :: .int .i64 0 :: Str t :: .int .i64 1 :: .int .i64 n :: Str [] :: l'⟩ T_api_Part (0, 0)) = X1 at hS
      generalize (b3, Obj.cells ⟨[Str k, .bool false, Str v]⟩ T_api_Op (0, 0)) = X2 at hS
      by_cases h1 : t = [101]
      · have hsp := hsp
        rw [h1] at hsp
        have hkk := (keyB_spl (by decide) hsp).1
        obtain ⟨xs, hva, hin⟩ := hO.eqs
        (repeat (refine jt ⟨?_⟩; refine hS.st rfl rfl ?_; intro _ hS)); refine jt ⟨?_⟩
        refine SemW.draw tblOk mixed (fun w' => St w T0 [(sb, .cells ⟨[.slice a s.eqs.length ca, .slice b s.fls.length cb, .slice c s.pxs.length cc]⟩ T_api_State (0, 0))] w') [12] [0, 1, 2, 3, 4, 5, 6, 7, 8, 9, 10, 11, 12] (by kernel_rfl) (hS.drew.sub (subS _ (List.Sublist.cons _ (List.Sublist.cons _ (List.Sublist.cons_cons _ (List.nil_sublist _)))))) ?_
        have hF := hS.drew
        have hS : St w T0 [(sb, .cells ⟨[.slice a s.eqs.length ca, .slice b s.fls.length cb, .slice c s.pxs.length cc]⟩ T_api_State (0, 0))] _ := hF.sub (subS _ (List.Sublist.cons _ (List.Sublist.cons _ (List.Sublist.cons_cons _ (List.nil_sublist _)))))
        refine jr ⟨?_⟩
        refine Cl.mono (rrequip_spec (s := ⟨v, false⟩) (id := n) (hF.part (L := rrH xr rb ⟨v, false⟩)) (by simp only; omega)) ?_
        rintro _ w5 ⟨a5, c5, L5, rfl, hv5, hS'⟩
        have hF := hF.call (L := rrH xr rb ⟨v, false⟩) hS'
        have hrec := rec_eq (v := v) hn64
        have hnor := noRec_eq (v := v) hkk
        generalize rRowsT ⟨v, false⟩ = y at hF hv5 hrec hnor
        obtain ⟨⟨t5, bd⟩, rws⟩ := y
        simp only at hF hv5 hrec hnor ⊢
        refine Chk.mk (hF.sub (subS _ (List.Sublist.cons _ (List.Sublist.cons _ (List.Sublist.cons_cons _ (List.nil_sublist _)))))) ?_
        refine hF.al ?_
        intro r w6 _ hF
        have hF : St w T0 ((r, .cells ⟨[.int .i64 n, .slice a5 rws.length c5]⟩ T_api_Equip (0, 0)) :: (rrH xr rb ⟨t5, bd⟩ ++ (L5 ++ (X1 :: X2 :: stH sb s a b c ca cb cc La Lr Lb Lc)))) _ := hF
        refine Chk.mk (hF.sub (List.Sublist.cons _ (subS _ (subS _ (List.Sublist.cons _ (List.Sublist.cons _ (List.Sublist.cons_cons _ (List.nil_sublist _)))))))) ?_
        refine jr ⟨?_⟩
        refine St.app (sz := 2) (m := 1) tblOk rfl rfl rfl rfl hF hva (news := [.int .i64 n, .slice a5 rws.length c5]) rfl (by have := hF.arr (b := r) (T' := []) (by simp); exact this) rfl (by show (_ + _) * 32 ≤ _; omega) (by omega) ?_
        intro a6 c6 L6 w7 hva hF
        have e8 : s.eqs.length + 1 = (s.eqs ++ [(⟨n, rws⟩ : EquipM)]).length := by simp
        rw [e8] at hva ⊢
        refine Chk.mk (hF.sub (List.Sublist.cons _ (subS _ (subS _ (List.Sublist.cons _ (List.Sublist.cons _ (List.Sublist.cons_cons _ (List.nil_sublist _)))))))) ?_
        refine jr ⟨?_⟩
        refine hF.st rfl rfl ?_
        intro _ hS
        have hO2 : StOwn (addR s (.eq ⟨n, rws⟩)) a6 b c c6 cb cc L6 (L5 ++ Lr) Lb Lc := ⟨⟨_, hva, EqsIn.snoc (e := ⟨n, rws⟩) hin hv5⟩, hO.fls, hO.pxs⟩
        cases bd with
        | true =>
          (repeat (refine jt ⟨?_⟩; refine hS.st rfl rfl ?_; intro _ hS)); refine jt ⟨?_⟩
          exact .inr ⟨rfl, hnor rfl, hS.nil⟩
        | false =>
          (repeat (refine jt ⟨?_⟩; refine hS.st rfl rfl ?_; intro _ hS)); refine jt ⟨?_⟩
          refine Cl.mono (RDone_spec (t := t5) (hS.part (L := [(rb, rdC t5)]))) ?_
          rintro _ w9 ⟨rfl, hS'⟩
          have hS := hS.call0 hS'
          by_cases ht5 : t5 = []
          · obtain ⟨hro, hre⟩ := hrec (by rw [ht5]; rfl)
            rw [decide_eq_true ht5]
            (repeat (refine jt ⟨?_⟩; refine hS.st rfl rfl ?_; intro _ hS)); refine jt ⟨?_⟩
            have hS := hS.sub (subRA (L := L5) (x := (r, _)) (A := rrH xr rb ⟨t5, false⟩) (X1 := X1) (X2 := X2))
            exact .inl ⟨rfl, _, hro, by rw [hre, ← hkk], _, _, _, _, _, _, _, _, _, _, hO2, hS.perm (heap_mv _ _ _ _ _)⟩
          · rw [decide_eq_false ht5]
            (repeat (refine jt ⟨?_⟩; refine hS.st rfl rfl ?_; intro _ hS)); refine jt ⟨?_⟩
            exact .inr ⟨rfl, hnor (by unfold doneR; rw [decide_eq_false ht5]; rfl), hS.nil⟩
      by_cases h2 : t = [102]
      · have hsp := hsp
        rw [h2] at hsp
        have hkk := (keyB_spl (by decide) hsp).1
        (repeat (refine jt ⟨?_⟩; refine hS.st rfl rfl ?_; intro _ hS)); refine jt ⟨?_⟩
        refine SemW.draw tblOk mixed (fun w' => St w T0 [(sb, .cells ⟨[.slice a s.eqs.length ca, .slice b s.fls.length cb, .slice c s.pxs.length cc]⟩ T_api_State (0, 0))] w') [12] [0, 1, 2, 3, 4, 5, 6, 7, 8, 9, 10, 11, 12] (by kernel_rfl) (hS.drew.sub (subS _ (List.Sublist.cons _ (List.Sublist.cons _ (List.Sublist.cons_cons _ (List.nil_sublist _)))))) ?_
        have hF := hS.drew
        have hS : St w T0 [(sb, .cells ⟨[.slice a s.eqs.length ca, .slice b s.fls.length cb, .slice c s.pxs.length cc]⟩ T_api_State (0, 0))] _ := hF.sub (subS _ (List.Sublist.cons _ (List.Sublist.cons _ (List.Sublist.cons_cons _ (List.nil_sublist _)))))
        refine jr ⟨?_⟩
        refine Cl.mono (rrflight_spec (s := ⟨v, false⟩) (id := n) (hF.part (L := rrH xr rb ⟨v, false⟩)) (by simp only; omega)) ?_
        rintro _ w5 ⟨rfl, hS'⟩
        have hF := hF.call (L := rrH xr rb ⟨v, false⟩) hS'
        have hrec := rec_fl (v := v) hn64
        have hnor := noRec_fl (v := v) hn64 hkk
        generalize rFl ⟨v, false⟩ n = y at hF hrec hnor
        obtain ⟨x, t5, bd⟩ := y
        simp only at hF hrec hnor ⊢
        refine Chk.mk (hF.sub (subS _ (List.Sublist.cons _ (List.Sublist.cons _ (List.Sublist.cons_cons _ (List.nil_sublist _)))))) ?_
        refine hF.al ?_
        intro r w6 _ hF
        have hF : St w T0 ((r, .cells ⟨flC x⟩ T_api_Flight (0, 0)) :: (rrH xr rb ⟨t5, bd⟩ ++ (X1 :: X2 :: stH sb s a b c ca cb cc La Lr Lb Lc))) _ := hF
        refine Chk.mk (hF.sub (List.Sublist.cons _ (subS _ (List.Sublist.cons _ (List.Sublist.cons _ (List.Sublist.cons_cons _ (List.nil_sublist _))))))) ?_
        refine jr ⟨?_⟩
        refine St.app (sz := 8) (m := 1) tblOk rfl rfl rfl rfl hF hO.fls (news := flC x) rfl (by have := hF.arr (b := r) (T' := []) (by simp); exact this) rfl (by show (_ + _) * 64 ≤ _; omega) (by omega) ?_
        intro a6 c6 L6 w7 hv6 hF
        have e9 : s.fls.flatMap flC ++ flC x = (s.fls ++ [x]).flatMap flC := by simp
        have e8 : s.fls.length + 1 = (s.fls ++ [x]).length := by simp
        rw [e9, e8] at hv6
        rw [e8]
        refine Chk.mk (hF.sub (List.Sublist.cons _ (subS _ (List.Sublist.cons _ (List.Sublist.cons _ (List.Sublist.cons_cons _ (List.nil_sublist _))))))) ?_
        refine jr ⟨?_⟩
        refine hF.st rfl rfl ?_
        intro _ hS
        cases bd with
        | true =>
          (repeat (refine jt ⟨?_⟩; refine hS.st rfl rfl ?_; intro _ hS)); refine jt ⟨?_⟩
          exact .inr ⟨rfl, hnor rfl, hS.nil⟩
        | false =>
          (repeat (refine jt ⟨?_⟩; refine hS.st rfl rfl ?_; intro _ hS)); refine jt ⟨?_⟩
          refine Cl.mono (RDone_spec (t := t5) (hS.part (L := [(rb, rdC t5)]))) ?_
          rintro _ w9 ⟨rfl, hS'⟩
          have hS := hS.call0 hS'
          by_cases ht5 : t5 = []
          · obtain ⟨hro, hre⟩ := hrec (by rw [ht5]; rfl)
            rw [decide_eq_true ht5]
            (repeat (refine jt ⟨?_⟩; refine hS.st rfl rfl ?_; intro _ hS)); refine jt ⟨?_⟩
            have hS := hS.sub (subB (x := (r, _)) (A := rrH xr rb ⟨t5, false⟩) (X1 := X1) (X2 := X2))
            exact .inl ⟨rfl, _, hro, by rw [hre, ← hkk], _, _, _, _, _, _, _, _, _, _, (⟨hO.eqs, hv6, hO.pxs⟩ : StOwn (addR s (.fl x)) a a6 c ca c6 cc La Lr L6 Lc), hS⟩
          · rw [decide_eq_false ht5]
            (repeat (refine jt ⟨?_⟩; refine hS.st rfl rfl ?_; intro _ hS)); refine jt ⟨?_⟩
            exact .inr ⟨rfl, hnor (by unfold doneR; rw [decide_eq_false ht5]; rfl), hS.nil⟩
      by_cases h3 : t = [112]
      · have hsp := hsp
        rw [h3] at hsp
        have hkk := (keyB_spl (by decide) hsp).1
        (repeat (refine jt ⟨?_⟩; refine hS.st rfl rfl ?_; intro _ hS)); refine jt ⟨?_⟩
        refine SemW.draw tblOk mixed (fun w' => St w T0 [(sb, .cells ⟨[.slice a s.eqs.length ca, .slice b s.fls.length cb, .slice c s.pxs.length cc]⟩ T_api_State (0, 0))] w') [12] [0, 1, 2, 3, 4, 5, 6, 7, 8, 9, 10, 11, 12] (by kernel_rfl) (hS.drew.sub (subS _ (List.Sublist.cons _ (List.Sublist.cons _ (List.Sublist.cons_cons _ (List.nil_sublist _)))))) ?_
        have hF := hS.drew
        have hS : St w T0 [(sb, .cells ⟨[.slice a s.eqs.length ca, .slice b s.fls.length cb, .slice c s.pxs.length cc]⟩ T_api_State (0, 0))] _ := hF.sub (subS _ (List.Sublist.cons _ (List.Sublist.cons _ (List.Sublist.cons_cons _ (List.nil_sublist _)))))
        refine jr ⟨?_⟩
        refine Cl.mono (rrpax_spec (s := ⟨v, false⟩) (id := n) (hF.part (L := rrH xr rb ⟨v, false⟩)) (by simp only; omega) (hE.keep hF hT.1 hT.2)) ?_
        rintro _ w5 ⟨rfl, hS'⟩
        have hF := hF.call (L := rrH xr rb ⟨v, false⟩) hS'
        have hrec := rec_px (v := v) hn64
        have hnor := noRec_px (v := v) hn64 hkk
        generalize rPax ⟨v, false⟩ n = y at hF hrec hnor
        obtain ⟨x, t5, bd⟩ := y
        simp only at hF hrec hnor ⊢
        refine Chk.mk (hF.sub (subS _ (List.Sublist.cons _ (List.Sublist.cons _ (List.Sublist.cons_cons _ (List.nil_sublist _)))))) ?_
        refine hF.al ?_
        intro r w6 _ hF
        have hF : St w T0 ((r, .cells ⟨paxC x⟩ T_api_Pax (0, 0)) :: (rrH xr rb ⟨t5, bd⟩ ++ (X1 :: X2 :: stH sb s a b c ca cb cc La Lr Lb Lc))) _ := hF
        refine Chk.mk (hF.sub (List.Sublist.cons _ (subS _ (List.Sublist.cons _ (List.Sublist.cons _ (List.Sublist.cons_cons _ (List.nil_sublist _))))))) ?_
        refine jr ⟨?_⟩
        refine St.app (sz := 13) (m := 1) tblOk rfl rfl rfl rfl hF hO.pxs (news := paxC x) rfl (by have := hF.arr (b := r) (T' := []) (by simp); exact this) rfl (by show (_ + _) * 88 ≤ _; omega) (by omega) ?_
        intro a6 c6 L6 w7 hv6 hF
        have e9 : s.pxs.flatMap paxC ++ paxC x = (s.pxs ++ [x]).flatMap paxC := by simp
        have e8 : s.pxs.length + 1 = (s.pxs ++ [x]).length := by simp
        rw [e9, e8] at hv6
        rw [e8]
        refine Chk.mk (hF.sub (List.Sublist.cons _ (subS _ (List.Sublist.cons _ (List.Sublist.cons _ (List.Sublist.cons_cons _ (List.nil_sublist _))))))) ?_
        refine jr ⟨?_⟩
        refine hF.st rfl rfl ?_
        intro _ hS
        cases bd with
        | true =>
          (repeat (refine jt ⟨?_⟩; refine hS.st rfl rfl ?_; intro _ hS)); refine jt ⟨?_⟩
          exact .inr ⟨rfl, hnor rfl, hS.nil⟩
        | false =>
          (repeat (refine jt ⟨?_⟩; refine hS.st rfl rfl ?_; intro _ hS)); refine jt ⟨?_⟩
          refine Cl.mono (RDone_spec (t := t5) (hS.part (L := [(rb, rdC t5)]))) ?_
          rintro _ w9 ⟨rfl, hS'⟩
          have hS := hS.call0 hS'
          by_cases ht5 : t5 = []
          · obtain ⟨hro, hre⟩ := hrec (by rw [ht5]; rfl)
            rw [decide_eq_true ht5]
            (repeat (refine jt ⟨?_⟩; refine hS.st rfl rfl ?_; intro _ hS)); refine jt ⟨?_⟩
            have hS := hS.sub (subB (x := (r, _)) (A := rrH xr rb ⟨t5, false⟩) (X1 := X1) (X2 := X2))
            exact .inl ⟨rfl, _, hro, by rw [hre, ← hkk], _, _, _, _, _, _, _, _, _, _, (⟨hO.eqs, hO.fls, hv6⟩ : StOwn (addR s (.px x)) a b a6 ca cb c6 La Lr Lb L6), hS⟩
          · rw [decide_eq_false ht5]
            (repeat (refine jt ⟨?_⟩; refine hS.st rfl rfl ?_; intro _ hS)); refine jt ⟨?_⟩
            exact .inr ⟨rfl, hnor (by unfold doneR; rw [decide_eq_false ht5]; rfl), hS.nil⟩
      · (repeat (refine jt ⟨?_⟩; refine hS.st rfl rfl ?_; intro _ hS)); refine jt ⟨?_⟩
        refine .inr ⟨rfl, noRec_key fun qs hqs c' n' hc he => ?_, hS.nil⟩
        subst he
        have e := spl_inj hqs hsp
        simp only [List.cons.injEq, PartM.text.injEq] at e
        rcases hc with rfl | rfl | rfl
        · exact h1 e.1.symm
        · exact h2 e.1.symm
        · exact h3 e.1.symm
def LessR (r q : RecM) : Prop := Op.bytesLess r.1 q.1 = true
theorem Rises.pairwise {l : List Int} (h : Rises l) : l.Pairwise (· < ·) := by
  rw [List.pairwise_iff_getElem]
  intro i j hi hj hij
  induction j with
  | zero => omega
  | succ j ih =>
    by_cases hk : i = j
    · subst hk; exact h i hj
    · exact Int.lt_trans (ih (by omega) (by omega)) (h j hj)
theorem rises_keys {α : Type} {l : List α} {id : α → Int} {f : α → RecM} {c : UInt8} (h : Rises (l.map id)) (hid : ∀ x ∈ l, i64b (id x)) (hf : ∀ x, (f x).1 = keyB c (id x)) : (l.map f).Pairwise LessR := by
  have hp := h.pairwise
  rw [List.pairwise_map] at hp ⊢
  refine hp.imp_of_mem fun {x y} hx hy hxy => ?_
  unfold LessR
  rw [hf, hf, key_less c (hid x hx) (hid y hy)]
  exact decide_eq_true hxy
structure IdsOk (s : StateM) : Prop where
  eqs : ∀ x ∈ s.eqs, i64b x.id
  fls : ∀ x ∈ s.fls, i64b x.id
  pxs : ∀ x ∈ s.pxs, i64b x.id
theorem StateAt.ids {w : World} {s : StateM} {a b c : Option Addr} {ca cb cc : Nat} (h : StateAt w s a b c ca cb cc) : IdsOk s :=
  ⟨fun _ hx => by obtain ⟨_, _, _, h1, _⟩ := h.eqs.mem hx; exact h1, fun _ hx => by obtain ⟨_, _, h1⟩ := h.fls.mem hx; exact h1.id, fun _ hx => by obtain ⟨_, _, h1⟩ := h.pxs.mem hx; exact h1.id⟩
theorem recs_sorted {s : StateM} (h : InForm s) (hi : IdsOk s) : (recs s).Pairwise LessR := by
  unfold recs
  rw [List.pairwise_append, List.pairwise_append]
  refine ⟨⟨rises_keys (c := 101) h.eqs hi.eqs (fun _ => rfl), rises_keys (c := 102) h.fls hi.fls (fun _ => rfl), ?_⟩, rises_keys (c := 112) h.pxs hi.pxs (fun _ => rfl), ?_⟩
  · intro r hr q hq
    obtain ⟨x, -, rfl⟩ := List.mem_map.1 hr
    obtain ⟨y, -, rfl⟩ := List.mem_map.1 hq
    exact key_letters (by decide) _ _
  · intro r hr q hq
    obtain ⟨y, -, rfl⟩ := List.mem_map.1 hq
    rcases List.mem_append.1 hr with hr | hr
    · obtain ⟨x, -, rfl⟩ := List.mem_map.1 hr
      exact key_letters (by decide) _ _
    · obtain ⟨x, -, rfl⟩ := List.mem_map.1 hr
      exact key_letters (by decide) _ _
end Go.Proofs.YtinkmidjbdnibaaGreatDoor
namespace Go.Srt
variable {α : Type} (lt : α → α → Bool)
def Srt (l : List α) : Prop := l.Pairwise fun x y => lt y x = false
structure Ord : Prop where
  asym : ∀ x y, lt x y = true → lt y x = false
  trans : ∀ x y z, lt y x = false → lt z y = false → lt z x = false
variable {lt}
theorem Srt.app {a b : List α} (ha : Srt lt a) (hb : Srt lt b) (h : ∀ x ∈ a, ∀ y ∈ b, lt y x = false) : Srt lt (a ++ b) := List.pairwise_append.2 ⟨ha, hb, h⟩
theorem Srt.left {a b : List α} (h : Srt lt (a ++ b)) : Srt lt a := (List.pairwise_append.1 h).1
theorem Srt.right {a b : List α} (h : Srt lt (a ++ b)) : Srt lt b := (List.pairwise_append.1 h).2.1
theorem Srt.cross {a b : List α} (h : Srt lt (a ++ b)) : ∀ x ∈ a, ∀ y ∈ b, lt y x = false := (List.pairwise_append.1 h).2.2
theorem Ord.irrefl (h : Ord lt) (x : α) : lt x x = false := by
  cases e : lt x x with
  | false => rfl
  | true => have := h.asym x x e; rw [e] at this; exact this
theorem Srt.at {l : List α} (h : Srt lt l) {i j : Nat} (hi : i < l.length) (hj : j < l.length) (hij : i < j) : lt l[j] l[i] = false := (List.pairwise_iff_getElem.1 h) i j hi hj hij
def swp (l : List α) (i j : Nat) (hi : i < l.length) (hj : j < l.length) : List α := (l.set i l[j]).set j l[i]
theorem swp_mid (P Q S : List α) (x y : α) (i j : Nat) (hi : i < (P ++ x :: Q ++ y :: S).length) (hj : j < (P ++ x :: Q ++ y :: S).length) (e1 : i = P.length) (e2 : j = P.length + 1 + Q.length) :
    swp (P ++ x :: Q ++ y :: S) i j hi hj = P ++ y :: Q ++ x :: S := by
  subst e1 e2
  have h1 : (P ++ x :: Q ++ y :: S)[P.length]? = some x := by simp
  have h2 : (P ++ x :: Q ++ y :: S)[P.length + 1 + Q.length]? = some y := by
    rw [List.getElem?_append_right (by simp; omega)]
    have : P.length + 1 + Q.length - (P ++ x :: Q).length = 0 := by simp; omega
    rw [this]; rfl
  rw [List.getElem?_eq_getElem hi, Option.some.injEq] at h1
  rw [List.getElem?_eq_getElem hj, Option.some.injEq] at h2
  unfold swp
  rw [h1, h2]
  have e3 : (P ++ x :: Q ++ y :: S).set P.length y = P ++ y :: Q ++ y :: S := by
    rw [List.append_assoc, List.set_append_right _ _ (Nat.le_refl _), Nat.sub_self]; simp
  rw [e3]
  have e4 : P.length + 1 + Q.length = (P ++ y :: Q).length := by simp; omega
  rw [e4, List.set_append_right _ _ (Nat.le_refl _), Nat.sub_self]; rfl
def rg (P A Q B S : List α) (k : Nat) : List α := P ++ (B.take k ++ A.drop k) ++ Q ++ (A.take k ++ B.drop k) ++ S
section
variable {P A Q B S : List α} {k a b : Nat}
theorem rg_zero : rg P A Q B S 0 = P ++ A ++ Q ++ B ++ S := by simp [rg]
theorem rg_full (hAB : A.length = B.length) (hk : k = A.length) : rg P A Q B S k = P ++ B ++ Q ++ A ++ S := by
  subst hk
  have h : B.take A.length = B := by rw [hAB]; exact List.take_length
  have h2 : B.drop A.length = [] := by rw [hAB]; exact List.drop_length
  unfold rg
  rw [h, h2]; simp
theorem rg_len (hAB : A.length = B.length) : (rg P A Q B S k).length = P.length + A.length + Q.length + B.length + S.length := by
  simp only [rg, List.length_append, List.length_take, List.length_drop]; omega
theorem rg_form (hAB : A.length = B.length) (hk : k < A.length) : ∃ P' Q' S' x y, rg P A Q B S k = P' ++ x :: Q' ++ y :: S' ∧ rg P A Q B S (k + 1) = P' ++ y :: Q' ++ x :: S' ∧ P'.length = P.length + k ∧ P'.length + 1 + Q'.length = P.length + A.length + Q.length + k := by
  refine ⟨P ++ B.take k, A.drop (k + 1) ++ Q ++ A.take k, B.drop (k + 1) ++ S, A[k], B[k]'(by omega), ?_, ?_, ?_, ?_⟩
  · have h1 := List.drop_eq_getElem_cons hk
    have h2 := List.drop_eq_getElem_cons (l := B) (i := k) (by omega)
    unfold rg
    rw [h1, h2]
    simp only [List.append_assoc, List.cons_append]
  · have h1 := List.take_succ_eq_append_getElem hk
    have h2 := List.take_succ_eq_append_getElem (l := B) (i := k) (by omega)
    unfold rg
    rw [h1, h2]
    simp only [List.append_assoc, List.cons_append, List.nil_append]
  · simp only [List.length_append, List.length_take]; omega
  · simp only [List.length_append, List.length_take, List.length_drop]; omega
theorem rg_swp (hAB : A.length = B.length) (hk : k < A.length) (hi : a < (rg P A Q B S k).length) (hj : b < (rg P A Q B S k).length) (e1 : a = P.length + k) (e2 : b = P.length + A.length + Q.length + k) : ((rg P A Q B S k).set a (rg P A Q B S k)[b]).set b (rg P A Q B S k)[a] = rg P A Q B S (k + 1) := by
  obtain ⟨P', Q', S', x, y, h1, h2, h3, h4⟩ := rg_form (P := P) (Q := Q) (S := S) hAB hk
  rw [h2]
  simp only [h1] at hi hj ⊢
  exact swp_mid P' Q' S' x y a b hi hj (by omega) (by omega)
end
theorem swp_adj (P T : List α) (u x : α) (n : Nat) (h : n = P.length) : ((P ++ u :: x :: T).set (n + 1) u).set n x = P ++ x :: u :: T := by
  subst h
  rw [List.set_append_right _ _ (by omega), List.set_append_right _ _ (by omega)]
  have e : P.length + 1 - P.length = 1 := by omega
  rw [e, Nat.sub_self]; rfl
theorem swp_adj' (P T : List α) (u x : α) (n : Nat) (h : n = P.length) : ((P ++ u :: x :: T).set n x).set (n + 1) u = P ++ x :: u :: T := by
  subst h
  rw [List.set_append_right _ _ (by omega), List.set_append_right _ _ (by omega)]
  have e : P.length + 1 - P.length = 1 := by omega
  rw [e, Nat.sub_self]; rfl
theorem get_adj (P T : List α) (u x : α) (n : Nat) (h : n < (P ++ u :: x :: T).length) (e : n = P.length + 1) : (P ++ u :: x :: T)[n] = x := by
  subst e; simp
theorem cut_at {l : List α} {k : Nat} (h : k < l.length) : ∃ P x S, l = P ++ x :: S ∧ P.length = k ∧ l[k] = x := ⟨l.take k, l[k], l.drop (k + 1), by rw [← List.drop_eq_getElem_cons h, List.take_append_drop], by simp; omega, rfl⟩
theorem get_mid (P S : List α) (x : α) (k : Nat) (h : k < (P ++ x :: S).length) (e : k = P.length) : (P ++ x :: S)[k] = x := by
  subst e; simp
theorem insert_sorted (hO : Ord lt) {U V : List α} {x : α} (h : Srt lt (U ++ V)) (hV : ∀ v ∈ V, lt x v = true) (hU : ∀ u, U.getLast? = some u → lt x u = false) : Srt lt (U ++ x :: V) := by
  have hU' : ∀ u ∈ U, lt x u = false := by
    intro u hu
    cases hl : U.getLast? with
    | none => rw [List.getLast?_eq_none_iff] at hl; subst hl; cases hu
    | some z =>
      have hz := hU z hl
      obtain ⟨W, rfl⟩ : ∃ W, U = W ++ [z] := List.getLast?_eq_some_iff.1 hl
      rcases List.mem_append.1 hu with hu | hu
      · have := h.left.cross u hu z (by simp)
        exact hO.trans u z x this hz
      · rw [List.mem_singleton] at hu; subst hu; exact hz
  refine Srt.app h.left (List.pairwise_cons.2 ⟨fun v hv => hO.asym x v (hV v hv), h.right⟩) fun u hu y hy => ?_
  rcases List.mem_cons.1 hy with rfl | hy
  · exact hU' u hu
  · exact h.cross u hu y hy
theorem insert_sorted' (hO : Ord lt) {U V : List α} {x : α} (h : Srt lt (U ++ V)) (hU : ∀ u, U.getLast? = some u → lt u x = true) (hV : ∀ v, V.head? = some v → lt v x = false) : Srt lt (U ++ x :: V) := by
  have hU' : ∀ u ∈ U, lt x u = false := by
    intro u hu
    cases hl : U.getLast? with
    | none => rw [List.getLast?_eq_none_iff] at hl; subst hl; cases hu
    | some z =>
      have hz := hO.asym _ _ (hU z hl)
      obtain ⟨W, rfl⟩ : ∃ W, U = W ++ [z] := List.getLast?_eq_some_iff.1 hl
      rcases List.mem_append.1 hu with hu | hu
      · have := h.left.cross u hu z (by simp)
        exact hO.trans u z x this hz
      · rw [List.mem_singleton] at hu; subst hu; exact hz
  have hV' : ∀ v ∈ V, lt v x = false := by
    intro v hv
    cases V with
    | nil => cases hv
    | cons z V =>
      have hz := hV z rfl
      rcases List.mem_cons.1 hv with rfl | hv
      · exact hz
      · exact hO.trans x z v hz ((List.pairwise_cons.1 h.right).1 v hv)
  refine Srt.app h.left (List.pairwise_cons.2 ⟨hV', h.right⟩) fun u hu y hy => ?_
  rcases List.mem_cons.1 hy with rfl | hy
  · exact hU' u hu
  · exact h.cross u hu y hy
theorem insert_sortedR (hO : Ord lt) {U V : List α} {x : α} (h : Srt lt (U ++ V)) (hU : ∀ u, U.getLast? = some u → lt x u = false) (hV : ∀ v, V.head? = some v → lt x v = true) : Srt lt (U ++ x :: V) := by
  refine insert_sorted hO h (fun v hv => ?_) hU
  cases V with
  | nil => cases hv
  | cons z V =>
    have hz := hV z rfl
    rcases List.mem_cons.1 hv with rfl | hv
    · exact hz
    · have h1 := (List.pairwise_cons.1 h.right).1 v hv
      cases hxv : lt x v with
      | true => rfl
      | false =>
        have := hO.trans z v x h1 hxv
        rw [hz] at this; cases this
theorem take_last {l : List α} {k : Nat} (h : k < l.length) : (l.take (k + 1)).getLast? = some l[k] := by
  rw [List.take_succ_eq_append_getElem h, List.getLast?_concat]
theorem drop_head {l : List α} {k : Nat} (h : k < l.length) : (l.drop k).head? = some l[k] := by
  rw [List.drop_eq_getElem_cons h]; rfl
theorem split_ok (hO : Ord lt) {A1 A2 B1 B2 : List α} (hA : Srt lt (A1 ++ A2)) (hB : Srt lt (B1 ++ B2)) (h1 : ∀ x y, A1.getLast? = some x → B2.head? = some y → lt y x = false) (h2 : ∀ x y, B1.getLast? = some x → A2.head? = some y → lt x y = true) :
    ∀ x ∈ A1 ++ B1, ∀ y ∈ A2 ++ B2, lt y x = false := by
  have last : ∀ {U : List α} {x : α}, Srt lt U → x ∈ U → ∃ z, U.getLast? = some z ∧ lt z x = false := by
    intro U x hU hx
    cases hl : U.getLast? with
    | none => rw [List.getLast?_eq_none_iff] at hl; subst hl; cases hx
    | some z =>
      refine ⟨z, rfl, ?_⟩
      obtain ⟨W, rfl⟩ : ∃ W, U = W ++ [z] := List.getLast?_eq_some_iff.1 hl
      rcases List.mem_append.1 hx with hx | hx
      · exact hU.cross x hx z (by simp)
      · rw [List.mem_singleton] at hx; subst hx; exact hO.irrefl _
  have head : ∀ {U : List α} {y : α}, Srt lt U → y ∈ U → ∃ z, U.head? = some z ∧ lt y z = false := by
    intro U y hU hy
    cases U with
    | nil => cases hy
    | cons z U =>
      refine ⟨z, rfl, ?_⟩
      rcases List.mem_cons.1 hy with rfl | hy
      · exact hO.irrefl _
      · exact (List.pairwise_cons.1 hU).1 y hy
  intro x hx y hy
  rcases List.mem_append.1 hx with hx | hx <;> rcases List.mem_append.1 hy with hy | hy
  · exact hA.cross x hx y hy
  · obtain ⟨z, e1, l1⟩ := last hA.left hx
    obtain ⟨u, e2, l2⟩ := head hB.right hy
    exact hO.trans x u y (hO.trans x z u l1 (h1 z u e1 e2)) l2
  · obtain ⟨z, e1, l1⟩ := last hB.left hx
    obtain ⟨u, e2, l2⟩ := head hA.right hy
    exact hO.trans x u y (hO.trans x z u l1 (hO.asym z u (h2 z u e1 e2))) l2
  · exact hB.cross x hx y hy
theorem noRot {P A1 A2 B1 B2 S : List α} (h : A2.length = 0 ∨ B1.length = 0) : P ++ (A1 ++ A2) ++ (B1 ++ B2) ++ S = P ++ (A1 ++ B1) ++ (A2 ++ B2) ++ S := by
  rcases h with h | h <;> rw [List.length_eq_zero_iff.1 h] <;> simp
theorem oneSrt {A1 A2 B1 B2 : List α} (h : A1.length = 0 ∨ B1.length = 0) (hA : Srt lt (A1 ++ A2)) (hB : Srt lt (B1 ++ B2)) : Srt lt (A1 ++ B1) := by
  rcases h with h | h <;> rw [List.length_eq_zero_iff.1 h]
  · exact hB.left
  · rw [List.append_nil]; exact hA.left
theorem oneSrt' {A1 A2 B1 B2 : List α} (h : A2.length = 0 ∨ B2.length = 0) (hA : Srt lt (A1 ++ A2)) (hB : Srt lt (B1 ++ B2)) : Srt lt (A2 ++ B2) := by
  rcases h with h | h <;> rw [List.length_eq_zero_iff.1 h]
  · exact hB.right
  · rw [List.append_nil]; exact hA.right
theorem halves_perm {A1 A2 B1 B2 L R : List α} (h1 : L.Perm (A1 ++ B1)) (h2 : R.Perm (A2 ++ B2)) : (L ++ R).Perm ((A1 ++ A2) ++ (B1 ++ B2)) := by
  refine (h1.append h2).trans ?_
  rw [List.append_assoc, List.append_assoc]
  refine List.Perm.append_left A1 ?_
  rw [← List.append_assoc, ← List.append_assoc]
  exact List.Perm.append_right B2 List.perm_append_comm
def EdgeL (lt : α → α → Bool) (A B : List α) (d s s0 : Nat) : Prop := s = s0 ∨ ∃ x y, A[s - 1]? = some x ∧ B[d - s]? = some y ∧ lt y x = false
def EdgeR (lt : α → α → Bool) (A B : List α) (d r r0 : Nat) : Prop := r = r0 ∨ ∃ x y, A[r]? = some x ∧ B[d - r - 1]? = some y ∧ lt y x = true
def Full (lt : α → α → Bool) (n : Nat) (bs : List (List α)) : Prop := ∀ x ∈ bs, x.length = n ∧ Srt lt x
theorem Full.snoc {n : Nat} {bs : List (List α)} {x : List α} (h : Full lt n bs) (h1 : x.length = n) (h2 : Srt lt x) : Full lt n (bs ++ [x]) := by
  intro y hy
  rcases List.mem_append.1 hy with hy | hy
  · exact h y hy
  · rw [List.mem_singleton] at hy; subst hy; exact ⟨h1, h2⟩
theorem Full.hd {n : Nat} {x : List α} {bs : List (List α)} (h : Full lt n (x :: bs)) : x.length = n ∧ Srt lt x := h x (by simp)
theorem Full.tl {n : Nat} {x : List α} {bs : List (List α)} (h : Full lt n (x :: bs)) : Full lt n bs := fun y hy => h y (by simp [hy])
def Cks (lt : α → α → Bool) (n : Nat) (l : List α) : Prop := ∃ bs r, l = bs.flatten ++ r ∧ Full lt n bs ∧ r.length < n ∧ Srt lt r
theorem Cks.all {n : Nat} {l : List α} (h : Cks lt n l) (hn : l.length ≤ n) : Srt lt l := by
  obtain ⟨bs, r, rfl, hf, hr, hs⟩ := h
  cases bs with
  | nil => exact hs
  | cons x bs =>
    have h1 := hf.hd
    rw [List.flatten_cons, List.length_append, List.length_append] at hn
    have e1 : bs.flatten = [] := List.length_eq_zero_iff.1 (by omega)
    have e2 : r = [] := List.length_eq_zero_iff.1 (by omega)
    rw [List.flatten_cons, e1, e2, List.append_nil, List.append_nil]
    exact h1.2
theorem Srt.nil : Srt lt ([] : List α) := List.Pairwise.nil
def ins (lt : α → α → Bool) (l : List α) (x : α) : List α := (l.takeWhile fun y => !lt x y) ++ x :: (l.dropWhile fun y => !lt x y)
theorem ins_perm (l : List α) (x : α) : (ins lt l x).Perm (x :: l) := by
  unfold ins
  refine List.perm_middle.trans (List.Perm.cons _ ?_)
  rw [List.takeWhile_append_dropWhile]
end Go.Srt
namespace Go.Proofs.YtinkmidjbdnibaaGreatDoor
open Go Go.Eng Go.Proofs Go.Srt
def zSt : StateM := ⟨[], [], []⟩
structure OkS (s : StateM) : Prop where
  eqs : ∀ e ∈ s.eqs, recOk (.eq e)
  fls : ∀ f ∈ s.fls, recOk (.fl f)
  pxs : ∀ p ∈ s.pxs, recOk (.px p)
def recsOf (s : StateM) : List RecV := s.eqs.map .eq ++ s.fls.map .fl ++ s.pxs.map .px
def opsOf (s : StateM) : List OpM := (recs s).map rop
def addAll (s : StateM) (l : List RecV) : StateM := l.foldl addR s
theorem recs_of (s : StateM) : recs s = (recsOf s).map recR := by
  unfold recs recsOf
  simp [recR, Function.comp_def]
theorem opsOf_eq (s : StateM) : opsOf s = (recsOf s).map fun R => rop (recR R) := by
  unfold opsOf; rw [recs_of]; simp [Function.comp_def]
theorem OkS.mem {s : StateM} (h : OkS s) : ∀ R ∈ recsOf s, recOk R := by
  intro R hR
  unfold recsOf at hR
  rcases List.mem_append.1 hR with hR | hR
  · rcases List.mem_append.1 hR with hR | hR
    · obtain ⟨x, hx, rfl⟩ := List.mem_map.1 hR; exact h.eqs x hx
    · obtain ⟨x, hx, rfl⟩ := List.mem_map.1 hR; exact h.fls x hx
  · obtain ⟨x, hx, rfl⟩ := List.mem_map.1 hR; exact h.pxs x hx
theorem OkS.ids {s : StateM} (h : OkS s) : IdsOk s := ⟨fun x hx => (h.eqs x hx).1, fun x hx => FlightM.ok.id (h.fls x hx), fun x hx => (h.pxs x hx).1.id⟩
theorem addAll_perm : ∀ (l : List RecV) (s : StateM), (recsOf (addAll s l)).Perm (recsOf s ++ l)
  | [], s => by rw [List.append_nil]; exact List.Perm.refl _
  | R :: l, s => by
    refine (addAll_perm l (addR s R)).trans ?_
    have h : (recsOf (addR s R)).Perm (recsOf s ++ [R]) := by
      cases R with
      | eq e =>
        unfold recsOf addR
        simp only [List.map_append, List.map_cons, List.map_nil]
        rw [List.append_assoc, List.append_assoc, List.append_assoc, List.append_assoc]
        refine List.Perm.append_left _ ?_
        rw [← List.append_assoc (s.fls.map RecV.fl)]
        exact List.perm_append_comm
      | fl f =>
        unfold recsOf addR
        simp only [List.map_append, List.map_cons, List.map_nil]
        rw [List.append_assoc, List.append_assoc, List.append_assoc, List.append_assoc]
        refine List.Perm.append_left _ (List.Perm.append_left _ ?_)
        exact List.perm_append_comm
      | px p =>
        unfold recsOf addR
        simp only [List.map_append, List.map_cons, List.map_nil]
        rw [← List.append_assoc]
    refine (List.Perm.append_right l h).trans ?_
    rw [List.append_assoc]
    exact List.Perm.refl _
theorem addAll_eqs : ∀ (l : List EquipM) (s : StateM), addAll s (l.map .eq) = ⟨s.eqs ++ l, s.fls, s.pxs⟩
  | [], s => by simp [addAll]
  | e :: l, s => by
    have := addAll_eqs l (addR s (.eq e))
    simp only [List.map_cons, addAll, List.foldl_cons] at this ⊢
    rw [this]; simp [addR]
theorem addAll_fls : ∀ (l : List FlightM) (s : StateM), addAll s (l.map .fl) = ⟨s.eqs, s.fls ++ l, s.pxs⟩
  | [], s => by simp [addAll]
  | e :: l, s => by
    have := addAll_fls l (addR s (.fl e))
    simp only [List.map_cons, addAll, List.foldl_cons] at this ⊢
    rw [this]; simp [addR]
theorem addAll_pxs : ∀ (l : List PaxM) (s : StateM), addAll s (l.map .px) = ⟨s.eqs, s.fls, s.pxs ++ l⟩
  | [], s => by simp [addAll]
  | e :: l, s => by
    have := addAll_pxs l (addR s (.px e))
    simp only [List.map_cons, addAll, List.foldl_cons] at this ⊢
    rw [this]; simp [addR]
theorem addAll_of (s : StateM) : addAll zSt (recsOf s) = s := by
  unfold recsOf
  have e : ∀ (a b : List RecV) (s : StateM), addAll s (a ++ b) = addAll (addAll s a) b := fun a b s => by unfold addAll; rw [List.foldl_append]
  rw [e, e, addAll_eqs, addAll_fls, addAll_pxs]
  simp [zSt]
theorem okS_all {l : List RecV} (h : ∀ R ∈ l, recOk R) : OkS (addAll zSt l) := by
  have hp := addAll_perm l zSt
  have hm : ∀ R ∈ recsOf (addAll zSt l), recOk R := fun R hR => by
    have := hp.mem_iff.1 hR
    rcases List.mem_append.1 this with h1 | h1
    · cases h1
    · exact h R h1
  refine ⟨fun e he => hm _ ?_, fun e he => hm _ ?_, fun e he => hm _ ?_⟩
  · unfold recsOf; simp [he]
  · unfold recsOf; simp [he]
  · unfold recsOf; simp [he]
theorem rec_inj {R Q : RecV} (hR : recOk R) (hQ : recOk Q) (h : rop (recR R) = rop (recR Q)) : R = Q := by
  unfold rop at h
  simp only [Prod.mk.injEq, true_and] at h
  obtain ⟨h1, h2⟩ := h
  have hc : recC R = recC Q := by rw [recR_key, recR_key] at h1; exact keyB_letter h1
  cases R with
  | eq e =>
    cases Q with
    | eq f =>
      have hid : e.id = f.id := keyB_inj (c := 101) hR.1 hQ.1 h1
      have a1 := rRowsT_codec.app e.rows [] hR.2
      have a2 := rRowsT_codec.app f.rows [] hQ.2
      have h2 : numB e.rows.length ++ rowsBt e.rows = numB f.rows.length ++ rowsBt f.rows := h2
      rw [h2, a2] at a1
      cases e; cases f
      simp only [Prod.mk.injEq] at a1 hid
      rw [hid, a1.1]
    | fl f => cases hc
    | px p => cases hc
  | fl e =>
    cases Q with
    | fl f =>
      have hid : e.id = f.id := keyB_inj (c := 102) hR.id hQ.id h1
      have a1 := (rFl_codec e.id hR.id).app e [] ⟨hR, rfl⟩
      have a2 := (rFl_codec e.id hR.id).app f [] ⟨hQ, hid.symm⟩
      have h2 : flightB e = flightB f := h2
      rw [h2, a2] at a1
      simp only [Prod.mk.injEq] at a1
      rw [a1.1]
    | eq f => cases hc
    | px p => cases hc
  | px e =>
    cases Q with
    | px f =>
      have hid : e.id = f.id := keyB_inj (c := 112) hR.1.id hQ.1.id h1
      have a1 := (rPax_codec e.id hR.1.id).app e [] ⟨hR, rfl⟩
      have a2 := (rPax_codec e.id hR.1.id).app f [] ⟨hQ, hid.symm⟩
      have h2 : paxB e = paxB f := h2
      rw [h2, a2] at a1
      simp only [Prod.mk.injEq] at a1
      rw [a1.1]
    | eq f => cases hc
    | fl p => cases hc
theorem recs_inj : ∀ {l m : List RecV}, (∀ R ∈ l, recOk R) → (∀ R ∈ m, recOk R) → (l.map fun R => rop (recR R)) = (m.map fun R => rop (recR R)) → l = m
  | [], [], _, _, _ => rfl
  | [], _ :: _, _, _, h => by cases h
  | _ :: _, [], _, _, h => by cases h
  | x :: l, y :: m, hl, hm, h => by
    simp only [List.map_cons, List.cons.injEq] at h
    rw [rec_inj (hl x List.mem_cons_self) (hm y List.mem_cons_self) h.1, recs_inj (fun R hR => hl R (List.mem_cons_of_mem _ hR)) (fun R hR => hm R (List.mem_cons_of_mem _ hR)) h.2]
def opLt (x y : OpM) : Bool := Op.bytesLess x.1 y.1
theorem sorted_same : ∀ {l m : List OpM}, l.Pairwise (fun x y => opLt x y = true) → m.Pairwise (fun x y => opLt y x = false) → l.Perm m → l = m
  | [], m, _, _, hp => (List.nil_perm.1 hp).symm
  | x :: l, [], _, _, hp => by have := List.perm_nil.1 hp; cases this
  | x :: l, y :: m, hl, hm, hp => by
    have hl' := List.pairwise_cons.1 hl
    have hm' := List.pairwise_cons.1 hm
    have hx : x = y := by
      have h1 : x ∈ y :: m := hp.mem_iff.1 List.mem_cons_self
      have h2 : y ∈ x :: l := hp.mem_iff.2 List.mem_cons_self
      rcases List.mem_cons.1 h1 with h1 | h1
      · exact h1
      · rcases List.mem_cons.1 h2 with h2 | h2
        · exact h2.symm
        · have a1 := hl'.1 y h2
          have a2 := hm'.1 x h1
          rw [a1] at a2; cases a2
    subst hx
    rw [sorted_same hl'.2 hm'.2 (List.Perm.cons_inv hp)]
theorem opsOf_sorted {s : StateM} (h : InForm s) (hi : IdsOk s) : (opsOf s).Pairwise (fun x y => opLt x y = true) := by
  unfold opsOf
  rw [List.pairwise_map]
  exact recs_sorted h hi
def Loads (rs : List OpM) (s : StateM) : Prop := OkS s ∧ InForm s ∧ (opsOf s).Perm rs
theorem loads_one {rs : List OpM} {s t : StateM} (hs : Loads rs s) (ht : Loads rs t) : s = t := by
  have h1 := opsOf_sorted hs.2.1 hs.1.ids
  have h2 := opsOf_sorted ht.2.1 ht.1.ids
  have h3 : opsOf s = opsOf t := sorted_same h1 (h2.imp fun {x y} h => bless_asym h) (hs.2.2.trans ht.2.2.symm)
  rw [opsOf_eq, opsOf_eq] at h3
  have := recs_inj hs.1.mem ht.1.mem h3
  rw [← addAll_of s, ← addAll_of t, this]
theorem loads_no {rs : List OpM} {o : OpM} (ho : o ∈ rs) (h : ∀ R, recOk R → rop (recR R) ≠ o) (s : StateM) : ¬ Loads rs s := by
  rintro ⟨h1, -, h3⟩
  have := h3.mem_iff.2 ho
  rw [opsOf_eq] at this
  obtain ⟨R, hR, he⟩ := List.mem_map.1 this
  exact h R (h1.mem R hR) he
theorem perm_map_all {l : List RecV} : (opsOf (addAll zSt l)).Perm (l.map fun R => rop (recR R)) := by
  rw [opsOf_eq]
  exact (addAll_perm l zSt).map _
theorem loads_yes {rs m : List OpM} {l : List RecV} (hp : m.Perm rs) (hl : ∀ R ∈ l, recOk R) (he : (l.map fun R => rop (recR R)) = m) (hf : InForm (addAll zSt l)) : Loads rs (addAll zSt l) :=
  ⟨okS_all hl, hf, perm_map_all.trans (by rw [he]; exact hp)⟩
theorem loads_form {rs m : List OpM} {l : List RecV} (hs : m.Pairwise (fun x y => opLt y x = false)) (hp : m.Perm rs) (hl : ∀ R ∈ l, recOk R) (he : (l.map fun R => rop (recR R)) = m) (hf : ¬ InForm (addAll zSt l)) (s : StateM) : ¬ Loads rs s := by
  rintro ⟨h1, h2, h3⟩
  refine hf ?_
  have h4 : opsOf s = m := sorted_same (opsOf_sorted h2 h1.ids) hs (h3.trans hp.symm)
  rw [opsOf_eq, ← he] at h4
  rw [← recs_inj h1.mem hl h4, addAll_of]
  exact h2
theorem cmp_less : ∀ (a b : Bytes), decide (Lib.compareBytes a b < 0) = Op.bytesLess a b
  | [], [] => rfl
  | [], _ :: _ => rfl
  | _ :: _, [] => rfl
  | a :: la, b :: lb => by
    rw [bless_cons]
    unfold Lib.compareBytes
    have e : ∀ x y : UInt8, x < y ↔ x.toNat < y.toNat := fun x y => UInt8.lt_iff_toNat_lt
    by_cases h : a.toNat < b.toNat
    · rw [if_pos ((e a b).2 h), decide_eq_true h]; rfl
    · rw [if_neg (fun h2 => h ((e a b).1 h2)), decide_eq_false h, Bool.false_or]
      by_cases h2 : b.toNat < a.toNat
      · rw [if_pos ((e b a).2 h2), decide_eq_false (by omega : ¬ a.toNat = b.toNat)]; rfl
      · rw [if_neg (fun h3 => h2 ((e b a).1 h3)), decide_eq_true (by omega : a.toNat = b.toNat), Bool.true_and]
        exact cmp_less la lb
def opCmp (x y : OpM) : Int := Lib.compareBytes x.1 y.1
theorem opOrd : Ord fun x y : OpM => decide (opCmp x y < 0) where
  asym x y h := by
    unfold opCmp at h ⊢
    rw [cmp_less] at h ⊢
    exact bless_asym h
  trans x y z h1 h2 := by
    unfold opCmp at h1 h2 ⊢
    rw [cmp_less] at h1 h2 ⊢
    cases h3 : Op.bytesLess z.1 x.1 with
    | false => rfl
    | true =>
      rcases bless_tri y.1 z.1 with h | h | h
      · have := bless_trans _ _ _ h h3; rw [h1] at this; cases this
      · rw [h] at h1; rw [h1] at h3; cases h3
      · rw [h2] at h; cases h
theorem flatMap_at {β : Type} {cv : β → List Value} {sz : Nat} (hc : ∀ x, (cv x).length = sz) : ∀ (xs : List β) (j : Nat) (hj : j < xs.length) (i : Nat), i < sz → (xs.flatMap cv)[j * sz + i]? = (cv xs[j])[i]?
  | [], j, hj, _, _ => by simp at hj
  | x :: xs, 0, _, i, hi => by rw [List.flatMap_cons, Nat.zero_mul, Nat.zero_add, List.getElem?_append_left (by rw [hc]; exact hi)]; rfl
  | x :: xs, j + 1, hj, i, hi => by
    rw [List.flatMap_cons, List.getElem?_append_right (by rw [hc, Nat.succ_mul]; omega), hc, show (j + 1) * sz + i - sz = j * sz + i by rw [Nat.succ_mul]; omega]
    exact flatMap_at hc xs j (by simpa using hj) i hi
theorem arr_rsl {β : Type} {sz : Nat} (hsz : 0 < sz) {R : CellR β} {w : World} {a : Option Addr} {cap : Nat} {xs : List β} {cells : List Value} (ha : Arr w [] a cells) (hn : xs.length ≤ cap)
    (h : ∀ j (hj : j < xs.length), ∃ c, c.length = sz ∧ (∀ i, i < sz → cells[j * sz + i]? = c[i]?) ∧ R w c xs[j]) : RSl sz R w [.slice a xs.length cap] xs := by
  refine ⟨a, cap, rfl, hn, trivial, fun j hj => ?_⟩
  obtain ⟨c, h1, h2, h3⟩ := h j hj
  have h0 : cells[j * sz + 0]? = some c[0] := by rw [h2 0 hsz, List.getElem?_eq_getElem (by omega)]
  obtain ⟨b, off, hab, -, -⟩ := ha _ _ h0
  refine ⟨b, off, c, hab, h1, fun i v hv => ?_, h3⟩
  have hi : i < sz := by have := (List.getElem?_eq_some_iff.1 hv).1; omega
  obtain ⟨b', off', hab', -, hc'⟩ := ha _ _ ((h2 i hi).trans hv)
  rw [hab] at hab'
  simp only [Option.some.injEq, Addr.mk.injEq, and_true] at hab'
  obtain ⟨rfl, rfl⟩ := hab'
  exact hc'
theorem EqsIn.out {L : Heap} {es : List EquipM} {xs : List Value} (h : EqsIn L es xs) : xs.length = es.length * 2 ∧ ∀ j (hj : j < es.length), ∃ a cap Le, Vec T_api_Row 5 a es[j].rows.length cap (es[j].rows.flatMap rowC) Le ∧ Le.Sublist L ∧ xs[j * 2]? = some (.int .i64 es[j].id) ∧ xs[j * 2 + 1]? = some (.slice a es[j].rows.length cap) := by
  induction h with
  | nil => exact ⟨rfl, fun j hj => by simp at hj⟩
  | @snoc L Le es xs e a cap h hv ih =>
    obtain ⟨hl, ih⟩ := ih
    refine ⟨by simp [hl]; omega, fun j hj => ?_⟩
    by_cases hje : j < es.length
    · obtain ⟨a', cap', Lj, h1, h2, h3, h4⟩ := ih j hje
      have e1 : (es ++ [e])[j] = es[j] := List.getElem_append_left hje
      rw [e1]
      exact ⟨a', cap', Lj, h1, h2.trans (List.sublist_append_right _ _), by rw [List.getElem?_append_left (by omega)]; exact h3, by rw [List.getElem?_append_left (by omega)]; exact h4⟩
    · have hje : j = es.length := by rw [List.length_append, List.length_singleton] at hj; omega
      have e1 : (es ++ [e])[j] = e := by subst hje; simp
      rw [e1]
      exact ⟨a, cap, Le, hv, List.sublist_append_left _ _, by rw [List.getElem?_append_right (by omega), show j * 2 - xs.length = 0 by omega]; rfl, by rw [List.getElem?_append_right (by omega), show j * 2 + 1 - xs.length = 1 by omega]; rfl⟩
def opW (o : OpM) : Nat := o.1.length + o.2.2.length + 3
def opsW (l : List OpM) : Nat := (l.map opW).sum
def bulkS (s : StateM) : Nat := (s.eqs.map fun e => rowsW e.rows + 3).sum + 9 * s.fls.length + 14 * s.pxs.length
theorem rowB_ge (r : RowM) : r.seats.length + 5 ≤ (rowB r).length := by
  have h1 := numB_pos (marksN [r.exit])
  have h2 := numB_pos r.seats.length
  have h3 := numB_pos (zig r.num)
  have h4 := numB_pos (zig r.cab)
  have h5 := numB_pos (zig r.zone)
  unfold rowB textsB textB intsB intB
  simp only [List.map_cons, List.map_nil, List.flatten_cons, List.flatten_nil, List.length_append, List.length_nil]
  omega
theorem rowsW_ge (l : List RowM) : rowsW l ≤ 7 * (rowsBt l).length := by
  induction l with
  | nil => simp [rowsW]
  | cons r l ih =>
    have h := rowB_ge r
    unfold rowsW rowsBt at *
    rw [List.map_cons, List.sum_cons, List.map_cons, List.flatten_cons, List.length_append]
    omega
theorem sumCons (f : OpM → Nat) (l m : List OpM) : ((l ++ m).map f).sum = (l.map f).sum + (m.map f).sum := by rw [List.map_append, List.sum_append]
theorem bulk_ops (s : StateM) : bulkS s ≤ 7 * opsW (opsOf s) := by
  have h1 : (s.eqs.map fun e => rowsW e.rows + 3).sum ≤ 7 * opsW ((s.eqs.map eqRec).map rop) := by
    generalize s.eqs = l
    unfold opsW
    induction l with
    | nil => simp
    | cons e l ih =>
      simp only [List.map_cons, List.sum_cons]
      have h := rowsW_ge e.rows
      have h2 : opW (rop (eqRec e)) = 13 + (numB e.rows.length ++ rowsBt e.rows).length + 3 := by unfold opW rop eqRec equipB; rw [keyB_len]
      rw [h2, List.length_append]
      omega
  have h2 : 9 * s.fls.length ≤ 7 * opsW ((s.fls.map flRec).map rop) := by
    generalize s.fls = l
    unfold opsW
    induction l with
    | nil => simp
    | cons e l ih =>
      simp only [List.map_cons, List.sum_cons, List.length_cons]
      have h2 : opW (rop (flRec e)) = 13 + (flightB e).length + 3 := by unfold opW rop flRec; rw [keyB_len]
      rw [h2]; omega
  have h3 : 14 * s.pxs.length ≤ 7 * opsW ((s.pxs.map pxRec).map rop) := by
    generalize s.pxs = l
    unfold opsW
    induction l with
    | nil => simp
    | cons e l ih =>
      simp only [List.map_cons, List.sum_cons, List.length_cons]
      have h2 : opW (rop (pxRec e)) = 13 + (paxB e).length + 3 := by unfold opW rop pxRec; rw [keyB_len]
      rw [h2]; omega
  unfold opsOf recs bulkS
  rw [List.map_append, List.map_append]
  unfold opsW at *
  rw [sumCons, sumCons]
  omega
theorem opsW_perm {l m : List OpM} (h : l.Perm m) : opsW l = opsW m := by
  unfold opsW
  induction h with
  | nil => rfl
  | cons x h ih => simp only [List.map_cons, List.sum_cons, ih]
  | swap x y l => simp only [List.map_cons, List.sum_cons]; omega
  | trans h1 h2 ih1 ih2 => rw [ih1, ih2]
structure OkW (s : StateM) : Prop where
  eqs : ∀ e ∈ s.eqs, i64b e.id ∧ RowsFine e.rows
  fls : ∀ f ∈ s.fls, f.ok
  pxs : ∀ p ∈ s.pxs, p.ok
theorem OkS.w {s : StateM} (h : OkS s) : OkW s := ⟨h.eqs, h.fls, fun p hp => (h.pxs p hp).1⟩
theorem StOwn.atW {w0 w : World} {T : List Nat} {s : StateM} {a b c : Option Addr} {ca cb cc : Nat} {La Lr Lb Lc : Heap} (hO : StOwn s a b c ca cb cc La Lr Lb Lc) (hS : St w0 T (La ++ (Lr ++ (Lb ++ Lc))) w) (hok : OkW s) (hb : bulkS s + 4 ≤ 8388608) : StateAt w s a b c ca cb cc := by
  obtain ⟨xs, hva, hin⟩ := hO.eqs
  obtain ⟨hxl, hrow⟩ := hin.out
  have hcap : ∀ {e : TypeId} {sz : Nat} {a : Option Addr} {n cap : Nat} {xs : List Value} {L : Heap}, Vec e sz a n cap xs L → n ≤ cap := fun h => by
    rcases h.inv with ⟨-, h1, h2, -⟩ | ⟨_, _, _, _, _, h1, _⟩
    · omega
    · exact h1
  refine ⟨?_, ?_, ?_, by unfold bulkS at hb; exact hb⟩
  · refine arr_rsl (by omega) (hva.arr hS (by simp)) (hcap hva) fun j hj => ?_
    obtain ⟨ar, cr, Le, h1, h2, h3, h4⟩ := hrow j hj
    refine ⟨[.int .i64 s.eqs[j].id, .slice ar s.eqs[j].rows.length cr], rfl, fun i hi => ?_, _, rfl, (hok.eqs _ (List.getElem_mem hj)).1, ?_⟩
    · match i, hi with
      | 0, _ => exact h3
      | 1, _ => exact h4
    · have hS2 : St w0 T Le w := hS.sub ((h2.trans (List.sublist_append_left Lr (Lb ++ Lc))).trans (List.sublist_append_right _ _))
      have hS3 : St w0 T (Le ++ []) w := by rw [List.append_nil]; exact hS2
      refine arr_rsl (by omega) (h1.arr (L := Le) hS3 (by simp)) (hcap h1) fun i hi => ⟨rowC s.eqs[j].rows[i], rfl, fun q hq => flatRow_at _ _ hi _ hq, rfl, ?_⟩
      exact ((hok.eqs _ (List.getElem_mem hj)).2.rows _ (List.getElem_mem hi)).1
  · refine arr_rsl (by omega) (hO.fls.arr hS (by simp)) (hcap hO.fls) fun j hj => ⟨flC s.fls[j], rfl, fun q hq => flatMap_at (cv := flC) (sz := 8) (fun _ => rfl) _ _ hj _ hq, rfl, hok.fls _ (List.getElem_mem hj)⟩
  · refine arr_rsl (by omega) (hO.pxs.arr hS (by simp)) (hcap hO.pxs) fun j hj => ⟨paxC s.pxs[j], rfl, fun q hq => flatMap_at (cv := paxC) (sz := 13) (fun _ => rfl) _ _ hj _ hq, rfl, hok.pxs _ (List.getElem_mem hj)⟩
theorem StOwn.at {w0 w : World} {T : List Nat} {s : StateM} {a b c : Option Addr} {ca cb cc : Nat} {La Lr Lb Lc : Heap} (hO : StOwn s a b c ca cb cc La Lr Lb Lc) (hS : St w0 T (La ++ (Lr ++ (Lb ++ Lc))) w) (hok : OkS s) (hb : bulkS s + 4 ≤ 8388608) : StateAt w s a b c ca cb cc := hO.atW hS hok.w hb
theorem seatGood_of {n : Int} {c : Nat} (h : (n = 0 ∧ c = 0) ∨ seatOk n c = true) : seatGood n c = true := by
  unfold seatGood
  refine decide_eq_true fun he => ?_
  unfold seatB at he
  split at he
  · cases he
  · next hz =>
    rcases h with h | h
    · exact hz h
    · rw [labelB_dash, h] at he; cases he
theorem sum_mem {l : List RowM} {r : RowM} (h : r ∈ l) : r.seats.length + 6 ≤ rowsW l := by
  obtain ⟨i, hi, rfl⟩ := List.mem_iff_getElem.1 h
  exact rowsW_at l i hi
end Go.Proofs.YtinkmidjbdnibaaGreatDoor
namespace Go.Proofs.YtinkmidjbdnibaaGreatDoor
open Go Go.Eng Go.Proofs
def partN : PartM → Int
  | .num n => n
  | .text _ => 0
def partK : PartM → Int
  | .num _ => 1
  | .text _ => 2
def partT : PartM → Bytes
  | .num _ => []
  | .text s => s
theorem partC_eq (p : PartM) : partC p = [.int .i64 (partK p), .int .i64 (partN p), Str (partT p)] := by cases p <;> rfl
end Go.Proofs.YtinkmidjbdnibaaGreatDoor
namespace Go.Proofs.YtinkmidjbdnibaaGreatDoor
open Go Go.Eng Go.Proofs Go.Srt
theorem lRow_use {s : RB} (h : (lRow s).2.bad = false) : (lRow s).2.t.length + 5 + (lRow s).1.seats.length ≤ s.t.length := by
  unfold lRow tk at h ⊢
  simp only at h ⊢
  obtain ⟨h3, e3, -⟩ := wText_codec.good _ h
  obtain ⟨h2, e2⟩ := rbNum_good h3
  obtain ⟨h1, e1, o1⟩ := (wInts_codec 3).good _ h2
  have l1 := congrArg List.length e1
  have l2 := congrArg List.length e2
  have l3 := congrArg List.length e3
  have m1 := intsB_min (wInts 3 s).1
  have m2 := numB_pos (rbNum (wInts 3 s).2).1
  have m3 := numB_pos (wText (rbNum (wInts 3 s).2).2).1.length
  unfold textB at l3
  simp only [List.length_append] at l1 l2 l3
  have o1 := o1.1
  omega
theorem lRow_part (s : RB) : (lRow s).1.seats.length ≤ s.t.length := by
  have h1 := textO_len (rbNum (wInts 3 s).2).2.t
  have h2 := numO_len (wInts 3 s).2.t
  have h3 := wInts_tlen 3 s
  have e1 : (lRow s).1.seats = (textO (rbNum (wInts 3 s).2).2.t).1 := rfl
  have e2 : (rbNum (wInts 3 s).2).2.t = (numO (wInts 3 s).2.t).2.2 := rfl
  rw [e1]; rw [e2] at h1 ⊢; omega
theorem rowsW_snoc (l : List RowM) (r : RowM) : rowsW (l ++ [r]) = rowsW l + (r.seats.length + 6) := by
  unfold rowsW; rw [List.map_append, List.sum_append]; simp
theorem lRows_w {m : Nat} : ∀ (n : Nat) (s : RB) (l : List RowM), (s.bad = false → rowsW l + 2 * s.t.length ≤ 2 * m) → rowsW l ≤ 2 * m + 6 → rowsW (lRows n (s, l)).2 ≤ 2 * m + 6
  | 0, s, l, _, h => h
  | n + 1, s, l, h1, h2 => by
    cases hb : s.bad with
    | true => unfold lRows; rw [if_pos hb]; exact h2
    | false =>
      unfold lRows
      rw [if_neg (by rw [hb]; decide)]
      have h1 := h1 hb
      have h3 := lRow_part s
      refine lRows_w n _ _ (fun hb2 => ?_) ?_
      · have h4 := lRow_use hb2
        rw [rowsW_snoc]; omega
      · rw [rowsW_snoc]; omega
theorem lRowsT_w (t : Bytes) : rowsW (lRowsT t).2 ≤ 2 * t.length + 6 := by
  have h := numO_len t
  refine lRows_w _ _ _ (fun _ => ?_) ?_
  · show 0 + 2 * (numO t).2.2.length ≤ _; omega
  · show 0 ≤ _; omega
def recW : RecV → Prop
  | .eq e => i64b e.id ∧ RowsFine e.rows
  | .fl f => f.ok
  | .px p => p.ok
def recBulk : RecV → Nat
  | .eq e => rowsW e.rows + 3
  | .fl _ => 9
  | .px _ => 14
structure LooseR (o : OpM) (R : RecV) : Prop where
  ok : recW R
  bulk : recBulk R ≤ 7 * opW o
  only : ∀ Q, recOk Q → rop (recR Q) = o → Q = R
theorem rec_at {Q : RecV} {k v : Bytes} {d : Bool} {c : UInt8} {n : Int} (hc : ¬ c = 0) (hs : Spl k [.text [c], .num n]) (hQ : recOk Q) (h : rop (recR Q) = (k, d, v)) : recC Q = c ∧ recN Q = n ∧ v = (recR Q).2 := by
  obtain ⟨h1, -, h3⟩ := rop_inj h
  obtain ⟨h4, hn⟩ := keyB_spl hc hs
  have hk : keyB (recC Q) (recN Q) = keyB c n := by rw [← h1, h4]
  have h5 := keyB_letter hk
  rw [h5] at hk
  exact ⟨h5, keyB_inj (c := c) (recN_ok hQ) hn hk, h3⟩
def KeyIs (o : OpM) (c : UInt8) (n : Int) : Prop := i64b n ∧ ∀ Q, recOk Q → rop (recR Q) = o → recC Q = c ∧ recN Q = n ∧ o.2.2 = (recR Q).2
theorem keyIs_of {k v : Bytes} {d : Bool} {c : UInt8} {q : PartM} (hc : ¬ c = 0) (hs : Spl k [.text [c], q]) : KeyIs (k, d, v) c (partN q) := by
  cases q with
  | num n => exact ⟨hs.2 (.num n) (by simp), fun Q hQ h => rec_at hc hs hQ h⟩
  | text t =>
    have h0 : i64b (0 : Int) := ⟨by decide, by decide⟩
    refine ⟨h0, fun Q hQ h => absurd h (noRec_key (fun ps hp c' n' _ he => ?_) Q hQ)⟩
    have := spl_inj hp hs
    rw [he] at this
    simp at this
theorem lRowsT_app {m : List RowM} (h : RowsFine m) : lRowsT (numB m.length ++ rowsBt m) = (⟨[], false⟩, m) := by
  unfold lRowsT
  rw [rbNum_app _ _ h.len]
  have := lRows_app m [] [] fun x hx => h.rows x hx
  rw [List.append_nil, List.nil_append] at this
  exact this
theorem lRowsT_fine (t : Bytes) (ht : t.length ≤ 100000000) : RowsFine (lRowsT t).2 := by
  have hw := lRowsT_w t
  refine ⟨fun r hr => ⟨lRows_ok _ _ _ (by nofun) r hr, ?_⟩, ?_⟩
  · have := sum_mem hr; omega
  · have := rowsW_len (lRowsT t).2; omega
theorem loose_eq {k v : Bytes} {d : Bool} {n : Int} (hv : v.length ≤ 100000000) (hs : KeyIs (k, d, v) 101 n) : LooseR (k, d, v) (.eq ⟨n, (lRowsT v).2⟩) where
  ok := ⟨hs.1, lRowsT_fine v hv⟩
  bulk := by
    have := lRowsT_w v
    unfold recBulk opW; simp only; omega
  only Q hQ h := by
    obtain ⟨h1, h2, h3⟩ := hs.2 Q hQ h
    cases Q with
    | fl f => cases h1
    | px p => cases h1
    | eq e =>
      have h3 : v = numB e.rows.length ++ rowsBt e.rows := h3
      have h2 : e.id = n := h2
      rw [h3, lRowsT_app hQ.2, ← h2]
theorem noLoose_eq {k v : Bytes} {d : Bool} {n : Int} (hs : KeyIs (k, d, v) 101 n) (hb : (lRowsT v).1.bad = true) : ∀ Q, recOk Q → rop (recR Q) ≠ (k, d, v) := by
  intro Q hQ h
  obtain ⟨h1, h2, h3⟩ := hs.2 Q hQ h
  cases Q with
  | fl f => cases h1
  | px p => cases h1
  | eq e =>
    have h3 : v = numB e.rows.length ++ rowsBt e.rows := h3
    rw [h3, lRowsT_app hQ.2] at hb; cases hb
def flOf (n : Int) (l : List Int) : FlightM := ⟨n, l.getD 0 0, l.getD 1 0, l.getD 2 0, l.getD 3 0, l.getD 4 0, l.getD 5 0, l.getD 6 0⟩
theorem flOf_ok {n : Int} {l : List Int} (hn : i64b n) (h : ∀ z ∈ l, i64ok z) : (flOf n l).ok := ⟨hn, getD_ok h 0, getD_ok h 1, getD_ok h 2, getD_ok h 3, getD_ok h 4, getD_ok h 5, getD_ok h 6⟩
theorem fl_app {f : FlightM} (h : f.ok) : wInts 7 ⟨flightB f, false⟩ = ([f.equip, f.phase, f.seq, f.l0, f.l1, f.l2, f.l3], ⟨[], false⟩) := by
  have e : flightB f = intsB [f.equip, f.phase, f.seq, f.l0, f.l1, f.l2, f.l3] ++ [] := by unfold flightB; simp [intsB]
  rw [e]
  refine (wInts_codec 7).app _ _ ⟨rfl, ?_⟩
  intro z hz
  simp only [List.mem_cons, List.mem_nil_iff, or_false] at hz
  rcases hz with rfl | rfl | rfl | rfl | rfl | rfl | rfl
  · exact h.equip
  · exact h.phase
  · exact h.seq
  · exact h.l0
  · exact h.l1
  · exact h.l2
  · exact h.l3
theorem loose_fl {k v : Bytes} {d : Bool} {n : Int} (hs : KeyIs (k, d, v) 102 n) : LooseR (k, d, v) (.fl (flOf n (wInts 7 ⟨v, false⟩).1)) where
  ok := flOf_ok hs.1 (wInts_ok 7 _)
  bulk := by unfold recBulk opW; simp only; omega
  only Q hQ h := by
    obtain ⟨h1, h2, h3⟩ := hs.2 Q hQ h
    cases Q with
    | eq f => cases h1
    | px p => cases h1
    | fl f =>
      have h3 : v = flightB f := h3
      have h2 : f.id = n := h2
      rw [h3, fl_app hQ, ← h2]
      rfl
theorem noLoose_fl {k v : Bytes} {d : Bool} {n : Int} (hs : KeyIs (k, d, v) 102 n) (hb : (wInts 7 ⟨v, false⟩).2.bad = true) : ∀ Q, recOk Q → rop (recR Q) ≠ (k, d, v) := by
  intro Q hQ h
  obtain ⟨h1, h2, h3⟩ := hs.2 Q hQ h
  cases Q with
  | eq f => cases h1
  | px p => cases h1
  | fl f =>
    have h3 : v = flightB f := h3
    rw [h3, fl_app hQ] at hb; cases hb
theorem px_app {p : PaxM} (hp : p.ok) (hs : seatGood p.num p.c = true) : lPax (paxB p) p.id = (p, ⟨[], false⟩) := by
  have := lPax_app p [] hp hs
  rw [List.append_nil, ← List.append_assoc] at this
  exact this
theorem loose_px {k v : Bytes} {d : Bool} {n : Int} (hs : KeyIs (k, d, v) 112 n) : LooseR (k, d, v) (.px (lPax v n).1) where
  ok := lPax_ok v hs.1
  bulk := by unfold recBulk opW; simp only; omega
  only Q hQ h := by
    obtain ⟨h1, h2, h3⟩ := hs.2 Q hQ h
    cases Q with
    | eq f => cases h1
    | fl p => cases h1
    | px p =>
      have h3 : v = paxB p := h3
      have h2 : p.id = n := h2
      rw [h3, ← h2, px_app hQ.1 hQ.2]
theorem noLoose_px {k v : Bytes} {d : Bool} {n : Int} (hs : KeyIs (k, d, v) 112 n) (hb : (lPax v n).2.bad = true) : ∀ Q, recOk Q → rop (recR Q) ≠ (k, d, v) := by
  intro Q hQ h
  obtain ⟨h1, h2, h3⟩ := hs.2 Q hQ h
  cases Q with
  | eq f => cases h1
  | fl p => cases h1
  | px p =>
    have h3 : v = paxB p := h3
    have h2 : p.id = n := h2
    rw [h3, ← h2, px_app hQ.1 hQ.2] at hb; cases hb
inductive Looses : List OpM → List RecV → Prop
  | nil : Looses [] []
  | snoc {l : List OpM} {m : List RecV} {o : OpM} {R : RecV} (h : Looses l m) (hr : LooseR o R) : Looses (l ++ [o]) (m ++ [R])
theorem Looses.len {l : List OpM} {m : List RecV} (h : Looses l m) : m.length = l.length := by
  induction h with
  | nil => rfl
  | snoc h hr ih => simp [ih]
theorem Looses.w {l : List OpM} {m : List RecV} (h : Looses l m) : ∀ R ∈ m, recW R := by
  induction h with
  | nil => nofun
  | snoc h hr ih =>
    intro R hR
    rcases List.mem_append.1 hR with hR | hR
    · exact ih R hR
    · rw [List.mem_singleton] at hR; subst hR; exact hr.ok
theorem Looses.bulk {l : List OpM} {m : List RecV} (h : Looses l m) : (m.map recBulk).sum ≤ 7 * opsW l := by
  induction h with
  | nil => exact Nat.zero_le _
  | @snoc l m o R h hr ih =>
    have hb := hr.bulk
    unfold opsW at ih ⊢
    simp only [List.map_append, List.sum_append, List.map_cons, List.map_nil, List.sum_cons, List.sum_nil]
    omega
theorem Looses.only {l : List OpM} {m : List RecV} (h : Looses l m) : ∀ qs : List RecV, (∀ Q ∈ qs, recOk Q) → (qs.map fun Q => rop (recR Q)) = l → qs = m := by
  induction h with
  | nil => intro qs _ h; exact List.map_eq_nil_iff.1 h
  | snoc h hr ih =>
    intro qs hq he
    obtain ⟨q1, q2, rfl, h1, h2⟩ := List.map_eq_append_iff.1 he
    have hlen : q2.length = 1 := by
      have := congrArg List.length h2
      rw [List.length_map] at this; exact this
    obtain ⟨Q, rfl⟩ := List.length_eq_one_iff.1 hlen
    simp only [List.map_cons, List.map_nil, List.cons.injEq, and_true] at h2
    rw [ih q1 (fun Q hQ => hq Q (by simp [hQ])) h1, hr.only Q (hq Q (by simp)) h2]
theorem bulkS_recs (s : StateM) : bulkS s = ((recsOf s).map recBulk).sum := by
  unfold bulkS recsOf
  simp only [List.map_append, List.sum_append, List.map_map]
  have h1 : (s.fls.map (recBulk ∘ RecV.fl)).sum = 9 * s.fls.length := by
    generalize s.fls = l
    induction l with
    | nil => rfl
    | cons a l ih => simp only [List.map_cons, List.sum_cons, List.length_cons, ih, Function.comp_apply, recBulk]; omega
  have h2 : (s.pxs.map (recBulk ∘ RecV.px)).sum = 14 * s.pxs.length := by
    generalize s.pxs = l
    induction l with
    | nil => rfl
    | cons a l ih => simp only [List.map_cons, List.sum_cons, List.length_cons, ih, Function.comp_apply, recBulk]; omega
  rw [h1, h2]
  rfl
theorem sumR_perm {l m : List RecV} (h : l.Perm m) : (l.map recBulk).sum = (m.map recBulk).sum := by
  induction h with
  | nil => rfl
  | cons x h ih => simp only [List.map_cons, List.sum_cons, ih]
  | swap x y l => simp only [List.map_cons, List.sum_cons]; omega
  | trans h1 h2 ih1 ih2 => rw [ih1, ih2]
theorem Looses.bulkS {l : List OpM} {m : List RecV} (h : Looses l m) : bulkS (addAll zSt m) ≤ 7 * opsW l := by
  rw [bulkS_recs, sumR_perm (addAll_perm m zSt)]
  exact h.bulk
theorem Looses.okW {l : List OpM} {m : List RecV} (h : Looses l m) : OkW (addAll zSt m) := by
  have hm : ∀ R ∈ recsOf (addAll zSt m), recW R := fun R hR => by
    have := (addAll_perm m zSt).mem_iff.1 hR
    rcases List.mem_append.1 this with h1 | h1
    · cases h1
    · exact h.w R h1
  refine ⟨fun e he => hm (.eq e) ?_, fun e he => hm (.fl e) ?_, fun e he => hm (.px e) ?_⟩
  · unfold recsOf; simp [he]
  · unfold recsOf; simp [he]
  · unfold recsOf; simp [he]
theorem Looses.loads {l rs : List OpM} {m : List RecV} (h : Looses l m) (hs : l.Pairwise (fun x y => opLt y x = false)) (hp : l.Perm rs) {s : StateM} (hL : Loads rs s) : s = addAll zSt m ∧ opsOf s = l := by
  obtain ⟨h1, h2, h3⟩ := hL
  have h4 : opsOf s = l := sorted_same (opsOf_sorted h2 h1.ids) hs (h3.trans hp.symm)
  refine ⟨?_, h4⟩
  rw [opsOf_eq] at h4
  rw [← h.only _ h1.mem h4, addAll_of]
theorem OkW.s {s : StateM} (h : OkW s) (hf : InForm s) : OkS s := ⟨h.eqs, h.fls, fun p hp => ⟨h.pxs p hp, seatGood_of (hf.seats p hp)⟩⟩
end Go.Proofs.YtinkmidjbdnibaaGreatDoor
namespace Go.Proofs.YtinkmidjbdnibaaGreatDoor
open Go Go.Eng Go.Proofs
theorem TextE_spec {w : World} (s : Bytes) (hs : s.length ≤ 70368744177664) : Cl Tryz.prog f_tarmacref01_Text [Str s] w fun v w' => v = Str (textB s) ∧ St w [] [] w' := by
  have hS := St.start w
  have hl := numB_len10' s.length (by omega)
  refine en_tarmacref01_Text rfl ?_
  refine jq ⟨?_⟩
  refine Cl.mono (NumE_spec s.length (by omega)) ?_
  rintro _ w1 ⟨rfl, hS'⟩
  have hS := hS.call0 hS'
  refine jq ⟨?_⟩
  exact ⟨rfl, hS⟩
def bitN (b : Bool) (n : Nat) : Nat := if b then n else 0
theorem bitN_le (b : Bool) (n : Nat) : bitN b n ≤ n := by unfold bitN; split <;> omega
theorem bits_marks (a b c d : Bool) : bitN a 1 + bitN b 2 + bitN c 4 + bitN d 8 = marksN [a, b, c, d] := by cases a <;> cases b <;> cases c <;> cases d <;> rfl
theorem bit_mark (a : Bool) : bitN a 1 = marksN [a] := by cases a <;> rfl
theorem bit_spec {w : World} (b : Bool) (n : Nat) : Cl Tryz.prog f_tarmacref22_bit [.bool b, .int .u64 n] w fun v w' => v = .int .u64 (bitN b n : Nat) ∧ St w [] [] w' := by
  have hS := St.start w
  refine en_tarmacref22_bit rfl ?_
  cases b with
  | true =>
    refine jq ⟨?_⟩
    exact ⟨rfl, hS⟩
  | false =>
    refine jq ⟨?_⟩
    exact ⟨rfl, hS⟩
theorem intB_len (z : Int) (hz : i64ok z) : (intB z).length ≤ 10 := numB_len10 _ (zig_eq z hz.1 hz.2).2
set_option maxHeartbeats 1000000 in
theorem R13Label_spec {w : World} (num : Int) (c : Nat) (hc : c < 256) : Cl Tryz.prog f_tarmacref13_Label [.agg ⟨[.int .i64 num, .int .u8 c]⟩] w fun v w' => v = Str (labelB num c) ∧ St w [] [] w' := by
  have hS := St.start w
  refine en_tarmacref13_Label rfl ?_
  unfold labelB
  refine jq ⟨?_⟩
  refine hS.al ?_
  intro b w1 _ hS
  have hS : St w [] ((b, .cells ⟨[.int .i64 num, .int .u8 c]⟩ T_api_Seat (0, 0)) :: []) _ := hS
  by_cases h1 : num < 1
  · (repeat (refine jt ⟨?_⟩; refine hS.st rfl rfl ?_; intro _ hS)); refine jt ⟨?_⟩
    have : seatOk num c = false := by
      cases h : seatOk num c with
      | false => rfl
      | true => have := seatOk_iff.1 h; omega
    rw [this]
    exact ⟨rfl, hS.nil⟩
  by_cases h2 : 99 < num
  · (repeat (refine jt ⟨?_⟩; refine hS.st rfl rfl ?_; intro _ hS)); refine jt ⟨?_⟩
    have : seatOk num c = false := by
      cases h : seatOk num c with
      | false => rfl
      | true => have := seatOk_iff.1 h; omega
    rw [this]
    exact ⟨rfl, hS.nil⟩
  by_cases h3 : c < 65
  · (repeat (refine jt ⟨?_⟩; refine hS.st rfl rfl ?_; intro _ hS)); refine jt ⟨?_⟩
    have : seatOk num c = false := by
      cases h : seatOk num c with
      | false => rfl
      | true => have := seatOk_iff.1 h; omega
    rw [this]
    exact ⟨rfl, hS.nil⟩
  by_cases h4 : 90 < c
  · (repeat (refine jt ⟨?_⟩; refine hS.st rfl rfl ?_; intro _ hS)); refine jt ⟨?_⟩
    have : seatOk num c = false := by
      cases h : seatOk num c with
      | false => rfl
      | true => have := seatOk_iff.1 h; omega
    rw [this]
    exact ⟨rfl, hS.nil⟩
  have hs : seatOk num c = true := seatOk_iff.2 (by omega)
  rw [hs, if_pos rfl]
  obtain ⟨n, rfl⟩ := Int.eq_ofNat_of_zero_le (show 0 ≤ num by omega)
  have hn100 : n < 100 := by omega
  have hdl : (digB n).length ≤ 2 := by unfold digB; split <;> simp
  (repeat (refine jt ⟨?_⟩; refine hS.st rfl rfl ?_; intro _ hS)); refine jt ⟨?_⟩
  refine SemW.drawR tblOk mixed [] ?_
  have hS := hS.drew
  refine DrawG.takes tblOk (by kernel_rfl) 5 [0, 1, 3, 4] (by kernel_rfl) ?_
  refine js ⟨?_⟩
  have hcb : ([.int .u8 c] : List Value) = [UInt8.ofNat c].map byteV := by
    have : (UInt8.ofNat c).toNat = c := by simp; omega
    simp [byteV, this]
  refine DrawG.alt tblOk 2 [5] (by kernel_rfl) ⟨?_, ?_, trivial⟩
  · refine Cl.mono (Itoa_spec n hn100) ?_
    rintro _ w2 ⟨rfl, hS'⟩
    refine Chk.mk hS' ?_
    have hS := hS.call0 hS'
    refine DrawG.alt tblOk 5 [] (by kernel_rfl) ⟨?_, trivial⟩
    refine hS.alG ?_
    intro r w3 hG hS
    refine Chk.mk hG ?_
    rw [hcb] at hS
    refine DrawG.takes tblOk (by kernel_rfl) 0 [6, 7, 8] (by kernel_rfl) ?_
    refine js ⟨?_⟩
    refine toStr (T := []) tblOk rfl rfl rfl rfl rfl rfl (bs := [UInt8.ofNat c]) rfl (fun w' hw' => (hS.call0 hw').arr (b := r) (by simp)) ?_
    refine js ⟨?_⟩
    refine Chk.mk (by simp; omega) ?_
    refine js ⟨?_⟩
    refine DrawG.done (by kernel_rfl) ?_
    refine jq ⟨?_⟩
    exact ⟨rfl, hS.nil⟩
  · refine hS.alG ?_
    intro r w3 hG hS
    refine Chk.mk hG ?_
    rw [hcb] at hS
    refine DrawG.takes tblOk (by kernel_rfl) 3 [6] (by kernel_rfl) ?_
    refine js ⟨?_⟩
    refine toStr (T := []) tblOk rfl rfl rfl rfl rfl rfl (bs := [UInt8.ofNat c]) rfl (fun w' hw' => (hS.call0 hw').arr (b := r) (by simp)) ?_
    refine js ⟨?_⟩
    refine DrawG.alt tblOk 2 [] (by kernel_rfl) ⟨?_, trivial⟩
    refine Cl.mono (Itoa_spec n hn100) ?_
    rintro _ w2 ⟨rfl, hS'⟩
    refine Chk.mk hS' ?_
    have hS := hS.call0 hS'
    refine DrawG.takes tblOk (by kernel_rfl) 0 [7, 8] (by kernel_rfl) ?_
    refine js ⟨?_⟩
    refine Chk.mk (by simp; omega) ?_
    refine js ⟨?_⟩
    refine DrawG.done (by kernel_rfl) ?_
    refine jq ⟨?_⟩
    exact ⟨rfl, hS.nil⟩
theorem label22_spec {w : World} (num : Int) (c : Nat) (hc : c < 256) : Cl Tryz.prog f_tarmacref22_label [seatV num c] w fun v w' => v = Str (seatB num c) ∧ St w [] [] w' := by
  have hS := St.start w
  unfold seatV
  refine en_tarmacref22_label rfl ?_
  refine jq ⟨?_⟩
  refine hS.al ?_
  intro b1 w1 _ hS
  (repeat (refine jt ⟨?_⟩; refine hS.st rfl rfl ?_; intro _ hS)); refine jt ⟨?_⟩
  refine eqlAgg (n := 2) (by omega) (by kernel_rfl) (eqSeat num c 0 0) ?_
  by_cases hz : num = 0 ∧ c = 0
  · have e : seatB num c = [] := if_pos hz
    rw [decide_eq_true hz, e]
    (repeat (refine jt ⟨?_⟩; refine hS.st rfl rfl ?_; intro _ hS)); refine jt ⟨?_⟩
    exact ⟨rfl, hS.nil⟩
  · have e : seatB num c = labelB num c := if_neg hz
    rw [decide_eq_false hz, e]
    (repeat (refine jt ⟨?_⟩; refine hS.st rfl rfl ?_; intro _ hS)); refine jt ⟨?_⟩
    refine Cl.mono (R13Label_spec num c hc) ?_
    rintro _ w2 ⟨rfl, hS'⟩
    have hS := hS.call0 hS'
    refine jq ⟨?_⟩
    exact ⟨rfl, hS.nil⟩
set_option maxHeartbeats 4000000 in
theorem flight22_spec {w : World} (f : FlightM) (hf : f.ok) : Cl Tryz.prog f_tarmacref22_flight [.agg ⟨flC f⟩] w fun v w' => v = Str (flightB f) ∧ St w [] [] w' := by
  have hS := St.start w
  have hl1 := intB_len _ hf.equip
  have hl2 := intB_len _ hf.phase
  have hl3 := intB_len _ hf.seq
  have hq2 : (intB f.equip ++ intB f.phase).length ≤ 20 := by rw [List.length_append]; omega
  unfold flC
  refine en_tarmacref22_flight rfl ?_
  refine jq ⟨?_⟩
  refine hS.al ?_
  intro b1 w1 _ hS
  have hS : St w [] [(b1, .cells ⟨flC f⟩ T_api_Flight (0, 0))] w1 := hS
  refine jq ⟨?_⟩
  refine SemW.draw tblOk mixed (fun w' => St w [] [(b1, .cells ⟨flC f⟩ T_api_Flight (0, 0))] w') [] [0, 1, 3, 4, 7, 8, 2, 5, 6, 9, 10, 11] (by kernel_rfl) hS.drew ?_
  have hS := hS.drew
  generalize w1.drew = w1 at hS
  refine jr ⟨?_⟩
  refine Cl.mono (IntE_spec (f.equip) hf.equip) ?_
  rintro _ w2 ⟨rfl, hS'⟩
  have hS := hS.call0 hS'
  refine Chk.mk hS ?_
  refine jr ⟨?_⟩
  refine Cl.mono (IntE_spec (f.phase) hf.phase) ?_
  rintro _ w3 ⟨rfl, hS'⟩
  have hS := hS.call0 hS'
  refine Chk.mk hS ?_
  refine jr ⟨?_⟩
  refine Cl.mono (IntE_spec (f.seq) hf.seq) ?_
  rintro _ w4 ⟨rfl, hS'⟩
  have hS := hS.call0 hS'
  refine Chk.mk hS ?_
  refine jr ⟨?_⟩
  (repeat (refine jt ⟨?_⟩; refine hS.st rfl rfl ?_; intro _ hS)); refine jt ⟨?_⟩
  refine SemW.loop (fun k : Nat => [(3, Str (intsB [f.equip, f.phase, f.seq] ++ intsB ([f.l0, f.l1, f.l2, f.l3].take k))), (18, .agg ⟨[.int .i64 f.l0, .int .i64 f.l1, .int .i64 f.l2, .int .i64 f.l3]⟩), (19, .int .i64 k)])
    (fun k w' => k ≤ 4 ∧ St w [] [(b1, .cells ⟨flC f⟩ T_api_Flight (0, 0))] w') (fun k => 4 - k) 0
    ⟨congrArg (fun l => Str l) (by simp [intsB]), rfl, rfl, trivial⟩ ⟨Nat.zero_le _, hS⟩ ?_
  clear hS hS'
  rintro k w5 ⟨hk, hS⟩
  have hil := ints_len _ hf.head
  have hil2 := ints_len ([f.l0, f.l1, f.l2, f.l3].take k) (fun z hz => hf.limits z (List.mem_of_mem_take hz))
  simp only [List.length_take, List.length_cons, List.length_nil] at hil hil2
  by_cases hk4 : k < 4
  · have hs := ints_succ [f.l0, f.l1, f.l2, f.l3] k hk4
    have hzk := hf.limits [f.l0, f.l1, f.l2, f.l3][k] (List.getElem_mem hk4)
    have hx : ([.int .i64 f.l0, .int .i64 f.l1, .int .i64 f.l2, .int .i64 f.l3] : List Value)[k]? = some (.int .i64 [f.l0, f.l1, f.l2, f.l3][k]) := by
      match k, hk4 with
      | 0, _ => rfl
      | 1, _ => rfl
      | 2, _ => rfl
      | 3, _ => rfl
    have hzl := intB_len _ hzk
    generalize [f.l0, f.l1, f.l2, f.l3][k] = z at hs hzk hx hzl
    refine jq ⟨?_⟩
    refine indexArr tblOk (t := T_4_int) rfl rfl rfl rfl hk4 hx ?_
    refine jq ⟨?_⟩
    refine Cl.mono (IntE_spec z hzk) ?_
    rintro _ w6 ⟨rfl, hS'⟩
    have hS := hS.call0 hS'
    refine jq ⟨?_⟩
    refine Chk.mk (by simp only [List.length_append]; omega) ?_
    refine jq ⟨?_⟩
    exact ⟨k + 1, ⟨congrArg (fun l => Str l) (by rw [hs]; simp), rfl, rfl, trivial⟩, ⟨by omega, hS⟩, by omega⟩
  · have hke : k = 4 := by omega
    subst hke
    refine jq ⟨?_⟩
    exact ⟨rfl, hS.nil⟩
theorem len_add {x y : Bytes} {a b : Nat} (hx : x.length ≤ a) (hy : y.length ≤ b) : (x ++ y).length ≤ a + b := by rw [List.length_append]; omega
set_option maxHeartbeats 8000000 in
theorem pax22_spec {w : World} (p : PaxM) (hp : p.ok) : Cl Tryz.prog f_tarmacref22_Pax [.agg ⟨paxC p⟩] w fun v w' => v = Str (paxB p) ∧ St w [] [] w' := by
  have hS := St.start w
  have hl1 := intB_len _ hp.flight
  have hl2 := intB_len _ hp.cab
  have hl3 := intB_len _ hp.cls
  have hl4 := intB_len _ hp.status
  have hl5 := intB_len _ hp.tick
  have hl6 := intB_len _ hp.pass
  have hq2 := len_add hl1 hl2
  have hq3 := len_add hq2 hl3
  have hq4 := len_add hq3 hl4
  have hq5 := len_add hq4 hl5
  have hq6 := len_add hq5 hl6
  have hbm := bits_marks p.fit p.infant p.vol p.stb
  have hb1 := bitN_le p.fit 1
  have hb2 := bitN_le p.infant 2
  have hb3 := bitN_le p.vol 4
  have hb4 := bitN_le p.stb 8
  have hnl := numB_len10 (marksN [p.fit, p.infant, p.vol, p.stb]) (by omega)
  have hq7 := len_add hq6 hnl
  have hsb := seatB_len p.num p.c
  have htl : (textB (seatB p.num p.c)).length ≤ 13 := by
    have := numB_len10 (seatB p.num p.c).length (by omega)
    unfold textB; rw [List.length_append]; omega
  unfold paxC
  refine en_tarmacref22_Pax rfl ?_
  refine jq ⟨?_⟩
  refine hS.al ?_
  intro b1 w1 _ hS
  have hS : St w [] [(b1, .cells ⟨paxC p⟩ T_api_Pax (0, 0))] w1 := hS
  refine jq ⟨?_⟩
  refine SemW.draw tblOk mixed (fun w' => St w [] [(b1, .cells ⟨paxC p⟩ T_api_Pax (0, 0))] w') [] [0, 1, 3, 4, 5, 8, 9, 12, 13, 16, 17, 20, 21, 2, 6, 7, 10, 11, 14, 15, 18, 19, 22, 23, 24] (by kernel_rfl) hS.drew ?_
  have hS := hS.drew
  generalize w1.drew = w1 at hS
  refine jr ⟨?_⟩
  refine Cl.mono (IntE_spec (p.flight) hp.flight) ?_
  rintro _ w2 ⟨rfl, hS'⟩
  have hS := hS.call0 hS'
  refine Chk.mk hS ?_
  refine jr ⟨?_⟩
  refine Cl.mono (IntE_spec (p.cab) hp.cab) ?_
  rintro _ w3 ⟨rfl, hS'⟩
  have hS := hS.call0 hS'
  refine Chk.mk hS ?_
  refine jr ⟨?_⟩
  refine Cl.mono (IntE_spec (p.cls) hp.cls) ?_
  rintro _ w4 ⟨rfl, hS'⟩
  have hS := hS.call0 hS'
  refine Chk.mk hS ?_
  refine jr ⟨?_⟩
  refine Cl.mono (IntE_spec (p.status) hp.status) ?_
  rintro _ w5 ⟨rfl, hS'⟩
  have hS := hS.call0 hS'
  refine Chk.mk hS ?_
  refine jr ⟨?_⟩
  refine Cl.mono (IntE_spec (p.tick) hp.tick) ?_
  rintro _ w6 ⟨rfl, hS'⟩
  have hS := hS.call0 hS'
  refine Chk.mk hS ?_
  refine jr ⟨?_⟩
  refine Cl.mono (IntE_spec (p.pass) hp.pass) ?_
  rintro _ w7 ⟨rfl, hS'⟩
  have hS := hS.call0 hS'
  refine Chk.mk hS ?_
  refine jr ⟨?_⟩
  refine SemW.draw tblOk mixed (fun w' => St w [] [(b1, .cells ⟨paxC p⟩ T_api_Pax (0, 0))] w') [] [0, 1, 2, 3, 5, 6, 7, 10, 11, 14, 15, 20, 21, 4, 8, 9, 12, 13, 16, 17, 18, 19, 22, 23, 24, 25] (by kernel_rfl) hS.drew ?_
  have hS := hS.drew
  generalize w7.drew = w7 at hS
  refine jr ⟨?_⟩
  refine Cl.mono (bit_spec p.fit 1) ?_
  rintro _ w8 ⟨rfl, hS'⟩
  have hS := hS.call0 hS'
  refine Chk.mk hS ?_
  refine jr ⟨?_⟩
  refine Cl.mono (bit_spec p.infant 2) ?_
  rintro _ w9 ⟨rfl, hS'⟩
  have hS := hS.call0 hS'
  refine Chk.mk hS ?_
  refine jr ⟨?_⟩
  refine Cl.mono (bit_spec p.vol 4) ?_
  rintro _ w10 ⟨rfl, hS'⟩
  have hS := hS.call0 hS'
  refine Chk.mk hS ?_
  refine jr ⟨?_⟩
  refine Cl.mono (bit_spec p.stb 8) ?_
  rintro _ w11 ⟨rfl, hS'⟩
  have hS := hS.call0 hS'
  refine Chk.mk hS ?_
  refine jr ⟨?_⟩
  rw [show (bitN p.fit 1 : Int) + (bitN p.infant 2 : Int) + (bitN p.vol 4 : Int) + (bitN p.stb 8 : Int) = ((marksN [p.fit, p.infant, p.vol, p.stb] : Nat) : Int) by rw [← hbm]; omega]
  refine Cl.mono (NumE_spec (marksN [p.fit, p.infant, p.vol, p.stb]) (by omega)) ?_
  rintro _ w12 ⟨rfl, hS'⟩
  have hS := hS.call0 hS'
  refine Chk.mk hS ?_
  refine jr ⟨?_⟩
  refine Cl.mono (label22_spec p.num p.c hp.c) ?_
  rintro _ w13 ⟨rfl, hS'⟩
  have hS := hS.call0 hS'
  refine Chk.mk hS ?_
  refine jr ⟨?_⟩
  refine Cl.mono (TextE_spec (seatB p.num p.c) (by omega)) ?_
  rintro _ w14 ⟨rfl, hS'⟩
  have hS := hS.call0 hS'
  refine Chk.mk hS ?_
  refine jr ⟨?_⟩
  refine ⟨?_, hS.nil⟩
  simp [paxB, intsB]
structure RI where
  k : Nat
  out : Bytes
  a : Option Addr
  c : Nat
set_option maxHeartbeats 8000000 in
theorem rows22_spec {w : World} {rs : List RowM} {a : Option Addr} {cap : Nat} (hR : RSl 5 RRow w [.slice a rs.length cap] rs) (hok : ∀ r ∈ rs, r.ok) (hw : rowsW rs ≤ 8388608) :
    Cl Tryz.prog f_tarmacref22_Rows [.slice a rs.length cap] w fun v w' => v = Str (numB rs.length ++ rowsBt rs) ∧ St w [] [] w' := by
  have hS := St.start w
  have hwl := rowsW_len rs
  have hnl := numB_len10 rs.length (by omega)
  refine en_tarmacref22_Rows rfl ?_
  refine jq ⟨?_⟩
  refine Cl.mono (NumE_spec rs.length (by omega)) ?_
  rintro _ w1 ⟨rfl, hS'⟩
  have hS := hS.call0 hS'
  refine jq ⟨?_⟩
  refine St.toBytesV tblOk rfl rfl rfl rfl rfl rfl hS ?_
  intro a0 c0 L0 w2 hv hS
  rw [List.append_nil] at hS
  refine jq ⟨?_⟩
  refine SemW.loop (fun x : RI => [(3, .slice x.a x.out.length x.c), (11, .slice a rs.length cap), (12, .int .i64 rs.length), (13, .int .i64 x.k)])
    (fun x w' => x.k ≤ rs.length ∧ x.out = numB rs.length ++ rowsBt (rs.take x.k) ∧ ∃ L, VecO T_uint8 x.a x.out.length x.c (x.out.map byteV) L ∧ St w [] L w') (fun x => rs.length - x.k) ⟨0, numB rs.length, a0, c0⟩
    ⟨rfl, rfl, rfl, rfl, trivial⟩ ⟨Nat.zero_le _, by simp [rowsBt], L0, hv, hS⟩ ?_
  clear hS hv hS'
  rintro ⟨k, out, a1, c1⟩ w3 ⟨hk, hout, L1, hv, hS⟩
  simp only at hk hout hv hS ⊢
  have htw := rowsW_take rs k
  have hbl := rowsBt_len (rs.take k) (fun r hr => hok r (List.mem_of_mem_take hr)) (by omega)
  have hol : out.length ≤ 600000000 := by rw [hout, List.length_append]; omega
  by_cases hkl : k < rs.length
  · obtain ⟨g, off, cs, rfl, ⟨rfl, hrok⟩, hld⟩ := RSl.ldn hS.nil hR hkl
    have hsucc := rowsBt_succ rs k hkl
    have hat := rowsW_at rs k hkl
    generalize rs[k] = row at hrok hld hat hsucc
    have hi1 := intB_len _ hrok.num
    have hi2 := intB_len _ hrok.cab
    have hi3 := intB_len _ hrok.zone
    have hbm := bit_mark row.exit
    have hb1 := bitN_le row.exit 1
    have hml := numB_len10 (bitN row.exit 1) (by omega)
    have htl : (textB row.seats).length ≤ 10 + row.seats.length := by
      have := numB_len10 row.seats.length (by omega)
      unfold textB; rw [List.length_append]; omega
    refine jq ⟨?_⟩
    refine hld _ ?_
    unfold rowC
    refine jq ⟨?_⟩
    refine hS.al ?_
    intro b5 w4 _ hS
    (repeat (refine jt ⟨?_⟩; refine hS.st rfl rfl ?_; intro _ hS)); refine jt ⟨?_⟩
    refine Cl.mono (IntE_spec row.num hrok.num) ?_
    rintro _ w5 ⟨rfl, hS'⟩
    have hS := hS.call0 hS'
    (repeat (refine jt ⟨?_⟩; refine hS.st rfl rfl ?_; intro _ hS)); refine jt ⟨?_⟩
    refine St.appOStr tblOk rfl rfl rfl rfl rfl rfl hS hv (s := intB row.num) (by show (_ + _) * 1 ≤ _; (try simp only [List.length_append]); omega) (by (try simp only [List.length_append]); omega) ?_
    intro a2 c2 L2 w6 hv hS
    rw [← List.map_append, ← List.length_append] at hv
    rw [← List.length_append]
    (repeat (refine jt ⟨?_⟩; refine hS.st rfl rfl ?_; intro _ hS)); refine jt ⟨?_⟩
    refine Cl.mono (IntE_spec row.cab hrok.cab) ?_
    rintro _ w7 ⟨rfl, hS'⟩
    have hS := hS.call0 hS'
    (repeat (refine jt ⟨?_⟩; refine hS.st rfl rfl ?_; intro _ hS)); refine jt ⟨?_⟩
    refine St.appOStr tblOk rfl rfl rfl rfl rfl rfl hS hv (s := intB row.cab) (by show (_ + _) * 1 ≤ _; (try simp only [List.length_append]); omega) (by (try simp only [List.length_append]); omega) ?_
    intro a2 c2 L2 w6 hv hS
    rw [← List.map_append, ← List.length_append] at hv
    rw [← List.length_append]
    (repeat (refine jt ⟨?_⟩; refine hS.st rfl rfl ?_; intro _ hS)); refine jt ⟨?_⟩
    refine Cl.mono (IntE_spec row.zone hrok.zone) ?_
    rintro _ w8 ⟨rfl, hS'⟩
    have hS := hS.call0 hS'
    (repeat (refine jt ⟨?_⟩; refine hS.st rfl rfl ?_; intro _ hS)); refine jt ⟨?_⟩
    refine St.appOStr tblOk rfl rfl rfl rfl rfl rfl hS hv (s := intB row.zone) (by show (_ + _) * 1 ≤ _; (try simp only [List.length_append]); omega) (by (try simp only [List.length_append]); omega) ?_
    intro a2 c2 L2 w6 hv hS
    rw [← List.map_append, ← List.length_append] at hv
    rw [← List.length_append]
    (repeat (refine jt ⟨?_⟩; refine hS.st rfl rfl ?_; intro _ hS)); refine jt ⟨?_⟩
    refine Cl.mono (bit_spec row.exit 1) ?_
    rintro _ w9 ⟨rfl, hS'⟩
    have hS := hS.call0 hS'
    (repeat (refine jt ⟨?_⟩; refine hS.st rfl rfl ?_; intro _ hS)); refine jt ⟨?_⟩
    refine Cl.mono (NumE_spec (bitN row.exit 1) (by omega)) ?_
    rintro _ w10 ⟨rfl, hS'⟩
    have hS := hS.call0 hS'
    (repeat (refine jt ⟨?_⟩; refine hS.st rfl rfl ?_; intro _ hS)); refine jt ⟨?_⟩
    refine St.appOStr tblOk rfl rfl rfl rfl rfl rfl hS hv (s := numB (bitN row.exit 1)) (by show (_ + _) * 1 ≤ _; (try simp only [List.length_append]); omega) (by (try simp only [List.length_append]); omega) ?_
    intro a2 c2 L2 w6 hv hS
    rw [← List.map_append, ← List.length_append] at hv
    rw [← List.length_append]
    (repeat (refine jt ⟨?_⟩; refine hS.st rfl rfl ?_; intro _ hS)); refine jt ⟨?_⟩
    refine Cl.mono (TextE_spec row.seats (by omega)) ?_
    rintro _ w11 ⟨rfl, hS'⟩
    have hS := hS.call0 hS'
    (repeat (refine jt ⟨?_⟩; refine hS.st rfl rfl ?_; intro _ hS)); refine jt ⟨?_⟩
    refine St.appOStr tblOk rfl rfl rfl rfl rfl rfl hS hv (s := textB row.seats) (by show (_ + _) * 1 ≤ _; (try simp only [List.length_append]); omega) (by (try simp only [List.length_append]); omega) ?_
    intro a2 c2 L2 w6 hv hS
    rw [← List.map_append, ← List.length_append] at hv
    rw [← List.length_append]
    (repeat (refine jt ⟨?_⟩; refine hS.st rfl rfl ?_; intro _ hS)); refine jt ⟨?_⟩
    refine ⟨⟨k + 1, _, _, _⟩, ⟨rfl, rfl, rfl, rfl, trivial⟩, ⟨by simp only; omega, ?_, _, hv, hS.sub (List.sublist_cons_self _ _)⟩, by simp only; omega⟩
    simp only
    rw [hsucc, hout, hbm]
    simp [rowB, intsB, textsB]
  · have hke : k = rs.length := by omega
    subst hke
    rw [List.take_length] at hout
    refine jq ⟨?_⟩
    refine toStr (T := []) tblOk rfl rfl rfl rfl rfl rfl (bs := out) rfl (fun w' hw' => by subst hw'; exact hv.arr hS (by simp)) ?_
    refine jq ⟨?_⟩
    exact ⟨by rw [hout], hS.nil⟩
theorem Right03_spec {w : World} (p : PartM) : Cl Tryz.prog f_tarmacref03_Right [.agg ⟨partC p⟩] w fun v w' => v = .bool true ∧ St w [] [] w' := by
  have hS := St.start w
  cases p with
  | text s =>
    unfold partC
    refine en_tarmacref03_Right rfl ?_
    refine jq ⟨?_⟩
    refine hS.al ?_
    intro b w1 _ hS
    (repeat (refine jt ⟨?_⟩; refine hS.st rfl rfl ?_; intro _ hS)); refine jt ⟨?_⟩
    exact ⟨rfl, hS.nil⟩
  | num n =>
    unfold partC
    refine en_tarmacref03_Right rfl ?_
    refine jq ⟨?_⟩
    refine hS.al ?_
    intro b w1 _ hS
    have he : ([] : Bytes) = [] := rfl
    (repeat (refine jt ⟨?_⟩; refine hS.st rfl rfl ?_; intro _ hS)); refine jt ⟨?_⟩
    exact ⟨rfl, hS.nil⟩
theorem unum_add (n : Int) (hn : -9223372036854775808 ≤ n ∧ n ≤ 9223372036854775807) : IntKind.u64.wrap (IntKind.u64.wrap n + 9223372036854775808) = (unum n : Int) := by
  unfold unum IntKind.wrap; simp only [IntKind.signed, IntKind.bits]; simp; omega
structure KI where
  k : Nat
  out : Bytes
  a : Option Addr
  c : Nat
theorem escB_app : ∀ (s t : Bytes), escB (s ++ t) = escB s ++ escB t
  | [], t => rfl
  | c :: s, t => by
    have ih := escB_app s t
    simp only [List.cons_append, escB]
    split <;> rw [ih] <;> rfl
theorem escB_ge (s : Bytes) : s.length ≤ (escB s).length := by
  induction s with
  | nil => exact Nat.le_refl _
  | cons c s ih =>
    unfold escB
    split <;> simp only [List.length_cons] <;> omega
theorem escB_le (s : Bytes) : (escB s).length ≤ 2 * s.length := by
  induction s with
  | nil => exact Nat.le_refl _
  | cons c s ih =>
    unfold escB
    split <;> simp only [List.length_cons] <;> omega
theorem escB_take (s : Bytes) (i : Nat) : (escB (s.take i)).length ≤ (escB s).length := by
  have h := escB_app (s.take i) (s.drop i)
  rw [List.take_append_drop] at h
  rw [h, List.length_append]; omega
theorem partsG_app (l m : List PartM) : partsG (l ++ m) = partsG l ++ partsG m := by simp [partsG]
theorem partsG_take (ps : List PartM) (k : Nat) : (partsG (ps.take k)).length ≤ (partsG ps).length := by
  have h := partsG_app (ps.take k) (ps.drop k)
  rw [List.take_append_drop] at h
  rw [h, List.length_append]; omega
theorem partsG_succ (ps : List PartM) (k : Nat) (hk : k < ps.length) : partsG (ps.take (k + 1)) = partsG (ps.take k) ++ partG ps[k] := by
  rw [List.take_succ_eq_append_getElem hk, partsG_app]
  simp [partsG]
def KGJ (w : World) (ps : List PartM) (x : KI) (w' : World) : Prop := x.k ≤ ps.length ∧ x.out = partsG (ps.take x.k) ∧ ∃ L, Vec T_uint8 1 x.a x.out.length x.c (x.out.map byteV) L ∧ St w [] L w'
set_option maxHeartbeats 8000000 in
theorem KeyG03_spec {w : World} {a : Option Addr} {cap : Nat} {ps : List PartM} (ha : Arr w [] a (ps.flatMap partC)) (hok : ∀ p ∈ ps, p.okN) (hl : ps.length ≤ 2097152) (hB : (partsG ps).length ≤ 1073741824) :
    Cl Tryz.prog f_tarmacref03_Key [.slice a ps.length cap] w fun v w' => v = .tuple ⟨[Str (partsG ps), .int .i64 0]⟩ ∧ St w [] [] w' := by
  have hS := St.start w
  refine en_tarmacref03_Key rfl ?_
  refine jq ⟨?_⟩
  refine SemW.loop (fun x : KI => [(4, .slice x.a x.out.length x.c), (11, .slice a ps.length cap), (12, .int .i64 ps.length), (13, .int .i64 x.k)])
    (KGJ w ps) (fun x => ps.length - x.k) ⟨0, [], none, 0⟩
    ⟨rfl, rfl, rfl, rfl, trivial⟩ ⟨Nat.zero_le _, rfl, [], Vec.nil, hS⟩ ?_
  clear hS
  rintro ⟨k, out, a1, c1⟩ w1 ⟨hk, hout, L1, hv, hS⟩
  simp only at hk hout hv hS ⊢
  have hpl := partsG_take ps k
  rw [← hout] at hpl
  by_cases hkl : k < ps.length
  · have hcl := partsC_len ps
    obtain ⟨g, off, rfl, -, -⟩ := ha.get (j := k * 3) (by omega)
    have hat := partsC_at ps k hkl
    have hpok := hok ps[k] (List.getElem_mem hkl)
    have hsucc := partsG_succ ps k hkl
    rw [← hout] at hsucc
    have hpl2 := partsG_take ps (k + 1)
    rw [hsucc, List.length_append] at hpl2
    generalize ps[k] = p at hat hpok hsucc hpl2
    refine jq ⟨?_⟩
    refine Arr.ldn hS ha rfl (k := k * 3) hat (partC_len _) ?_
    cases p with
    | text s =>
      have hpl2 : out.length + (1 + ((escB s).length + 2)) ≤ (partsG ps).length := by
        simp only [partG, List.length_cons, List.length_append, List.length_nil] at hpl2; omega
      have hse := escB_ge s
      have hR := fun {w' : World} => Right03_spec (w := w') (.text s)
      unfold partC at hR ⊢
      refine jq ⟨?_⟩
      refine hS.al ?_
      intro b6 w2 _ hS
      (repeat (refine jt ⟨?_⟩; refine hS.st rfl rfl ?_; intro _ hS)); refine jt ⟨?_⟩
      refine Cl.mono hR ?_
      rintro _ w3 ⟨rfl, hS'⟩
      have hS := hS.call0 hS'
      (repeat (refine jt ⟨?_⟩; refine hS.st rfl rfl ?_; intro _ hS)); refine jt ⟨?_⟩
      refine hS.al ?_
      intro r w5 _ hS
      refine jq ⟨?_⟩
      refine St.app (sz := 1) (m := 1) tblOk rfl rfl rfl rfl hS hv (news := ([(2 : UInt8)]).map byteV) rfl (by have := hS.arr (b := r) (T' := []) (by simp); exact this) rfl (by show (_ + _) * 1 ≤ _; omega) (by omega) ?_
      intro a2 c2 L2 w6 hv hS
      rw [← List.map_append] at hv
      have hS := hS.sub (List.sublist_cons_self _ _)
      have hl : out.length + 1 = (out ++ [2]).length := by simp
      rw [hl] at hv
      rw [hl]
      have hS : St w [] (L2 ++ [(b6, .cells ⟨[.int .i64 2, .int .i64 0, Str s]⟩ T_api_Part (0, 0))]) w6 := hS.perm (List.perm_append_singleton _ _).symm
      refine jq ⟨?_⟩
      refine SemW.loop (fun x : KI => [(4, .slice x.a x.out.length x.c), (6, ptr b6), (10, .int .i64 x.k), (11, .slice (some ⟨g, off, none⟩) ps.length cap), (12, .int .i64 ps.length), (13, .int .i64 k)])
        (fun x w' => x.k ≤ s.length ∧ x.out = out ++ [2] ++ escB (s.take x.k) ∧ ∃ L, Vec T_uint8 1 x.a x.out.length x.c (x.out.map byteV) L ∧ St w [] (L ++ [(b6, .cells ⟨[.int .i64 2, .int .i64 0, Str s]⟩ T_api_Part (0, 0))]) w') (fun x => s.length - x.k) ⟨0, out ++ [2], a2, c2⟩
        ⟨rfl, rfl, rfl, rfl, rfl, rfl, trivial⟩ ⟨Nat.zero_le _, by simp [escB], L2, hv, hS⟩ ?_
      clear hS hv hS'
      rintro ⟨i, out2, a3, c3⟩ w7 ⟨hi, hout2, L3, hv, hS⟩
      simp only at hi hout2 hv hS ⊢
      have hesc := escB_take s i
      have hol : out2.length ≤ out.length + 1 + (escB s).length := by rw [hout2]; simp only [List.length_append, List.length_singleton]; omega
      by_cases his : i < s.length
      · have hgd : s.getD ((i : Int)).toNat 0 = s[i] := by simp [List.getD, List.getElem?_eq_getElem his]
        have hsi : s.take (i + 1) = s.take i ++ [s[i]] := List.take_succ_eq_append_getElem his
        generalize s[i] = ch at hgd hsi
        have hcb := ch.toNat_lt
        (repeat (refine jt ⟨?_⟩; refine hS.st rfl rfl ?_; intro _ hS)); refine jt ⟨?_⟩
        rw [hgd]
        (repeat (refine jt ⟨?_⟩; refine hS.st rfl rfl ?_; intro _ hS)); refine jt ⟨?_⟩
        refine hS.al ?_
        intro r w8 _ hS
        (repeat (refine jt ⟨?_⟩; refine hS.st rfl rfl ?_; intro _ hS)); refine jt ⟨?_⟩
        refine St.app (sz := 1) (m := 1) tblOk rfl rfl rfl rfl hS hv (news := [ch].map byteV) rfl (by have := hS.arr (b := r) (T' := []) (by simp); exact this) rfl (by show (_ + _) * 1 ≤ _; omega) (by omega) ?_
        intro a4 c4 L4 w9 hv hS
        rw [← List.map_append] at hv
        have hS := hS.sub (List.sublist_cons_self _ _)
        have hl : out2.length + 1 = (out2 ++ [ch]).length := by simp
        rw [hl] at hv
        rw [hl]
        by_cases hc : ch = 0
        · have hz : ((ch.toNat : Nat) : Int) = 0 := by rw [hc]; rfl
          (repeat (refine jt ⟨?_⟩; refine hS.st rfl rfl ?_; intro _ hS)); refine jt ⟨?_⟩
          rw [hgd]
          (repeat (refine jt ⟨?_⟩; refine hS.st rfl rfl ?_; intro _ hS)); refine jt ⟨?_⟩
          refine hS.al ?_
          intro r w8 _ hS
          (repeat (refine jt ⟨?_⟩; refine hS.st rfl rfl ?_; intro _ hS)); refine jt ⟨?_⟩
          refine St.app (sz := 1) (m := 1) tblOk rfl rfl rfl rfl hS hv (news := [(255 : UInt8)].map byteV) rfl (by have := hS.arr (b := r) (T' := []) (by simp); exact this) rfl (by show (_ + _) * 1 ≤ _; simp only [List.length_append, List.length_singleton]; omega) (by simp only [List.length_append, List.length_singleton]; omega) ?_
          intro a5 c5 L5 w9 hv hS
          rw [← List.map_append] at hv
          have hS := hS.sub (List.sublist_cons_self _ _)
          have hl : (out2 ++ [ch]).length + 1 = (out2 ++ [ch] ++ [255]).length := by simp
          rw [hl] at hv
          rw [hl]
          (repeat (refine jt ⟨?_⟩; refine hS.st rfl rfl ?_; intro _ hS)); refine jt ⟨?_⟩
          exact ⟨⟨i + 1, out2 ++ [ch] ++ [255], a5, c5⟩, ⟨rfl, rfl, rfl, rfl, rfl, rfl, trivial⟩, ⟨by simp only; omega, by simp only; rw [hsi, hout2, escB_app]; simp [escB, hc], L5, hv, hS⟩, by simp only; omega⟩
        · have hnz : ¬ ((ch.toNat : Nat) : Int) = 0 := fun h => hc (UInt8.toNat_inj.1 (by show _ = 0; omega))
          (repeat (refine jt ⟨?_⟩; refine hS.st rfl rfl ?_; intro _ hS)); refine jt ⟨?_⟩
          rw [hgd]
          (repeat (refine jt ⟨?_⟩; refine hS.st rfl rfl ?_; intro _ hS)); refine jt ⟨?_⟩
          exact ⟨⟨i + 1, out2 ++ [ch], a4, c4⟩, ⟨rfl, rfl, rfl, rfl, rfl, rfl, trivial⟩, ⟨by simp only; omega, by simp only; rw [hsi, hout2, escB_app]; simp [escB, hc], L4, hv, hS⟩, by simp only; omega⟩
      · have hie : i = s.length := by omega
        subst hie
        rw [List.take_length] at hout2
        (repeat (refine jt ⟨?_⟩; refine hS.st rfl rfl ?_; intro _ hS)); refine jt ⟨?_⟩
        refine hS.al ?_
        intro r w8 _ hS
        (repeat (refine jt ⟨?_⟩; refine hS.st rfl rfl ?_; intro _ hS)); refine jt ⟨?_⟩
        refine St.app (sz := 1) (m := 2) tblOk rfl rfl rfl rfl hS hv (news := [(0 : UInt8), 0].map byteV) rfl (by have := hS.arr (b := r) (T' := []) (by simp); exact this) rfl (by show (_ + _) * 1 ≤ _; omega) (by omega) ?_
        intro a4 c4 L4 w9 hv hS
        rw [← List.map_append] at hv
        have hl : out2.length + 2 = (out2 ++ [0, 0]).length := by simp
        rw [hl] at hv
        rw [hl]
        (repeat (refine jt ⟨?_⟩; refine hS.st rfl rfl ?_; intro _ hS)); refine jt ⟨?_⟩
        exact ⟨⟨k + 1, out2 ++ [0, 0], a4, c4⟩, ⟨rfl, rfl, rfl, rfl, trivial⟩, ⟨by simp only; omega, by simp only; rw [hsucc, hout2]; simp [partG], L4, hv, (hS.sub (List.sublist_cons_self _ _)).sub (List.sublist_append_left _ _)⟩, by simp only; omega⟩
    | num n =>
      have hu := unum_add n hpok
      have hul : unum n < 18446744073709551616 := by have h := hpok.1; have h' := hpok.2; unfold unum; omega
      have hR := fun {w' : World} => Right03_spec (w := w') (.num n)
      unfold partC at hR ⊢
      refine jq ⟨?_⟩
      refine hS.al ?_
      intro b6 w2 _ hS
      (repeat (refine jt ⟨?_⟩; refine hS.st rfl rfl ?_; intro _ hS)); refine jt ⟨?_⟩
      refine Cl.mono hR ?_
      rintro _ w3 ⟨rfl, hS'⟩
      have hS := hS.call0 hS'
      (repeat (refine jt ⟨?_⟩; refine hS.st rfl rfl ?_; intro _ hS)); refine jt ⟨?_⟩
      rw [hu]
      (repeat (refine jt ⟨?_⟩; refine hS.st rfl rfl ?_; intro _ hS)); refine jt ⟨?_⟩
      refine hS.al ?_
      intro eb w4 _ hS
      have hS : St w [] ((eb, .cells ⟨(be8to (unum n) 0).map byteV⟩ T_8_uint8 (0, 0)) :: (b6, .cells ⟨[.int .i64 1, .int .i64 n, Str []]⟩ T_api_Part (0, 0)) :: L1) w4 := hS
      refine jq ⟨?_⟩
      refine SemW.loop (fun j : Nat => [(4, .slice a1 out.length c1), (7, .int .u64 (unum n / 256 ^ j : Nat)), (8, ptr eb), (9, .int .i64 (7 - (j : Int))), (11, .slice (some ⟨g, off, none⟩) ps.length cap), (12, .int .i64 ps.length), (13, .int .i64 k)])
        (fun j w' => j ≤ 8 ∧ St w [] ((eb, .cells ⟨(be8to (unum n) j).map byteV⟩ T_8_uint8 (0, 0)) :: (b6, .cells ⟨[.int .i64 1, .int .i64 n, Str []]⟩ T_api_Part (0, 0)) :: L1) w') (fun j => 8 - j) 0
        ⟨rfl, congrArg (Value.int .u64) (by simp), rfl, rfl, rfl, rfl, rfl, trivial⟩ ⟨Nat.zero_le _, hS⟩ ?_
      rintro j w8 ⟨hj, hS⟩
      by_cases hjl : j < 8
      · have hst := be8to_set (unum n) j hjl
        have hnx : unum n / 256 ^ (j + 1) = unum n / 256 ^ j / 256 := by rw [Nat.pow_succ, Nat.div_div_eq_div_mul]
        have hlt : unum n / 256 ^ j ≤ unum n := Nat.div_le_self _ _
        generalize unum n / 256 ^ j = M at hst hnx hlt ⊢
        have e2 : ((M : Int).tmod 256) = ((M % 256 : Nat) : Int) := tmodN M 256
        have e3 : ((M : Int).tdiv 256) = ((M / 256 : Nat) : Int) := tdivN M 256
        have hbl := be8to_len (unum n) j hj
        refine jq ⟨?_⟩
        rw [e2]
        refine jq ⟨?_⟩
        refine hS.stI rfl (by rw [List.length_map, hbl]; omega) ?_
        intro w9 hS
        have hS : St w [] ((eb, .cells ⟨(be8to (unum n) (j + 1)).map byteV⟩ T_8_uint8 (0, 0)) :: (b6, .cells ⟨[.int .i64 1, .int .i64 n, Str []]⟩ T_api_Part (0, 0)) :: L1) w9 := by
          rw [← hst]
          have e0 : 0 + (7 - (j : Int)).toNat * 1 = 7 - j := by omega
          rw [e0] at hS
          have e4 : byteV (UInt8.ofNat M) = Value.int .u8 ((M % 256 : Nat) : Int) := by simp [byteV]
          rw [e4]; exact hS
        refine jq ⟨?_⟩
        rw [e3]
        refine jq ⟨?_⟩
        refine ⟨j + 1, ⟨rfl, congrArg (Value.int .u64) (by rw [hnx]), rfl, ?_, rfl, rfl, rfl, trivial⟩, ⟨by omega, hS⟩, by omega⟩
        show _ = (_ : Value)
        rw [show (7 - ((j + 1 : Nat) : Int)) = 7 - (j : Int) - 1 by omega]
      · have hj8 : j = 8 := by omega
        subst hj8
        have hb8 : be8to (unum n) 8 = be8 (unum n) := by simp [be8to]
        rw [hb8] at hS
        refine jq ⟨?_⟩
        refine SemW.draw tblOk mixed (fun w' => ∃ H, St w [] H w') [4, 5] [0, 3, 1, 2, 4, 5] (by kernel_rfl) ⟨_, hS.drew⟩ ?_
        have hS := hS.drew
        generalize w8.drew = w8 at hS
        refine jr ⟨?_⟩
        refine sliceArrA (n := 8) (sz := 1) tblOk (t := T_8_uint8) rfl rfl ?_
        refine jr ⟨?_⟩
        refine hS.al ?_
        intro r w9 _ hS
        refine Chk.mk ⟨_, hS⟩ ?_
        refine jr ⟨?_⟩
        refine St.app (sz := 1) (m := 1) tblOk rfl rfl rfl rfl hS hv (news := [(1 : UInt8)].map byteV) rfl (by have := hS.arr (b := r) (T' := []) (by simp); exact this) rfl (by show (_ + _) * 1 ≤ _; omega) (by omega) ?_
        intro a2 c2 L2 w10 hv hS
        rw [← List.map_append] at hv
        refine Chk.mk ⟨_, hS⟩ ?_
        refine jr ⟨?_⟩
        refine St.app (sz := 1) (m := 8) tblOk rfl rfl rfl rfl hS hv (news := (be8 (unum n)).map byteV) rfl (hS.arr (b := eb) (by simp)) rfl (by show (_ + _) * 1 ≤ _; omega) (by omega) ?_
        intro a3 c3 L3 w11 hv hS
        rw [← List.map_append] at hv
        have hl : out.length + 1 + 8 = (out ++ [1] ++ be8 (unum n)).length := by simp [be8]
        rw [hl] at hv ⊢
        refine jq ⟨?_⟩
        refine ⟨⟨k + 1, out ++ [1] ++ be8 (unum n), a3, c3⟩, ⟨rfl, rfl, rfl, rfl, trivial⟩, ⟨by simp only; omega, by simp only; rw [hsucc]; simp [partG], L3, hv, hS.sub ?_⟩, by simp only; omega⟩
        exact ((List.sublist_cons_self _ _).trans (List.sublist_cons_self _ _)).trans (List.sublist_cons_self _ _)
  · have hke : k = ps.length := by omega
    subst hke
    rw [List.take_length] at hout
    subst hout
    refine jq ⟨?_⟩
    refine toStr (T := []) tblOk rfl rfl rfl rfl rfl rfl (bs := partsG ps) rfl (fun w' hw' => by subst hw'; exact hv.arr hS (by simp)) ?_
    refine jq ⟨?_⟩
    exact ⟨rfl, hS.nil⟩
def lxM : Bytes → Bytes × Nat
  | [] => ([], 0)
  | [_] => ([], 0)
  | c :: d :: r => if c ≠ 0 then (c :: (lxM (d :: r)).1, (lxM (d :: r)).2 + 1) else if d ≠ 0 then (0 :: (lxM r).1, (lxM r).2 + 2) else ([], 0)
theorem lxM_esc : ∀ (s r : Bytes), lxM (escB s ++ 0 :: 0 :: r) = (s, (escB s).length)
  | [], r => rfl
  | c :: s, r => by
    have ih := lxM_esc s r
    unfold escB
    by_cases hc : c = 0
    · subst hc
      rw [if_pos rfl]
      show lxM (0 :: 255 :: (escB s ++ 0 :: 0 :: r)) = _
      unfold lxM
      rw [if_neg (by simp), if_pos (by decide), ih]; rfl
    · rw [if_neg hc, List.cons_append]
      obtain ⟨d, r', he⟩ : ∃ d r', escB s ++ 0 :: 0 :: r = d :: r' := by
        cases h : escB s ++ 0 :: 0 :: r with
        | nil => simp at h
        | cons d r' => exact ⟨d, r', rfl⟩
      rw [he] at ih ⊢
      unfold lxM
      rw [if_pos hc, ih]; rfl
theorem lxM_le : ∀ (n : Nat) (t : Bytes), t.length ≤ n → (lxM t).1.length ≤ (lxM t).2 ∧ (lxM t).2 ≤ t.length
  | n, [], _ => ⟨Nat.le_refl _, Nat.zero_le _⟩
  | n, [_], _ => ⟨Nat.le_refl _, Nat.zero_le _⟩
  | 0, c :: d :: r, hn => by simp at hn
  | n + 1, c :: d :: r, hn => by
    simp only [List.length_cons] at hn
    have h1 := lxM_le n (d :: r) (by simp only [List.length_cons]; omega)
    have h2 := lxM_le n r (by omega)
    unfold lxM
    split
    · simp only [List.length_cons] at h1 ⊢; omega
    · split
      · simp only [List.length_cons] at h2 ⊢; omega
      · exact ⟨Nat.le_refl _, Nat.zero_le _⟩
theorem beV_go (l : Bytes) : ∀ u : Nat, l.foldl (fun u x => 256 * u + x.toNat) u < (u + 1) * 256 ^ l.length := by
  induction l with
  | nil => intro u; show u < (u + 1) * 1; omega
  | cons x l ih =>
    intro u
    have h := ih (256 * u + x.toNat)
    have hx := x.toNat_lt
    rw [List.foldl_cons, List.length_cons, Nat.pow_succ, Nat.mul_comm (256 ^ l.length) 256, ← Nat.mul_assoc]
    exact Nat.lt_of_lt_of_le h (Nat.mul_le_mul_right _ (by omega))
theorem beV_lt (l : Bytes) : beV l < 256 ^ l.length := by
  have := beV_go l 0
  simpa [beV] using this
def looseP (k : Bytes) (at' : Nat) : PartM × Nat :=
  if k.getD at' 0 = 1 then (.num (unb ((k.drop (at' + 1)).take 8)), at' + 9) else (.text (lxM (k.drop (at' + 1))).1, at' + 1 + (lxM (k.drop (at' + 1))).2 + 2)
theorem sub_top (b : Nat) (hb : b < 18446744073709551616) : ∃ u : Nat, IntKind.u64.wrap ((b : Int) - 9223372036854775808) = (u : Int) ∧ IntKind.i64.wrap (u : Int) = (b : Int) - 9223372036854775808 ∧ u < 18446744073709551616 := by
  by_cases h : b < 9223372036854775808
  · refine ⟨b + 9223372036854775808, ?_, ?_, by omega⟩
    · unfold IntKind.wrap; simp only [IntKind.signed, IntKind.bits]; simp; omega
    · unfold IntKind.wrap; simp only [IntKind.signed, IntKind.bits]; simp; omega
  · refine ⟨b - 9223372036854775808, ?_, ?_, by omega⟩
    · unfold IntKind.wrap; simp only [IntKind.signed, IntKind.bits]; simp; omega
    · unfold IntKind.wrap; simp only [IntKind.signed, IntKind.bits]; simp; omega
set_option maxRecDepth 4000 in
set_option maxHeartbeats 4000000 in
theorem part03_spec {w : World} {k : Bytes} {p : Nat} (hk : k.length ≤ 1048576) (hp : p < k.length) :
    Cl Tryz.prog f_tarmacref03_part [Str k, .int .i64 p] w fun v w' => v = .tuple ⟨[.agg ⟨partC (looseP k p).1⟩, .int .i64 (looseP k p).2]⟩ ∧ St w [] [] w' := by
  have hS := St.start w
  refine en_tarmacref03_part rfl ?_
  refine jq ⟨?_⟩
  refine hS.al ?_
  intro b4 w1 _ hS
  have hg0 : k.getD ((p : Int)).toNat 0 = k.getD p 0 := rfl
  have hdl : (k.drop (p + 1)).length = k.length - (p + 1) := List.length_drop
  unfold looseP
  generalize k.getD p 0 = ch at hg0
  have hcb := ch.toNat_lt
  (repeat (refine jt ⟨?_⟩; refine hS.st rfl rfl ?_; intro _ hS)); refine jt ⟨?_⟩
  rw [hg0]
  by_cases h1 : ch = 1
  · subst h1
    have hz1 : ((UInt8.toNat 1 : Nat) : Int) = 1 := rfl
    rw [if_pos rfl]
    (repeat (refine jt ⟨?_⟩; refine hS.st rfl rfl ?_; intro _ hS)); refine jt ⟨?_⟩
    generalize hD : k.drop (p + 1) = D at hdl
    refine SemW.loop (fun j : Nat => [(0, Str k), (1, .int .i64 p), (4, ptr b4), (5, .int .i64 0), (6, .int .u64 (beV (D.take j) : Nat)), (7, .int .i64 (j + 1 : Nat))])
      (fun j w' => (j ≤ 8 ∧ j ≤ D.length ∧ beV (D.take j) < 256 ^ j) ∧ St w [] [(b4, .cells ⟨partZ⟩ T_api_Part (0, 0))] w') (fun j => 8 - j) 0
      ⟨rfl, rfl, rfl, rfl, rfl, rfl, trivial⟩ ⟨⟨Nat.zero_le _, Nat.zero_le _, by rw [List.take_zero]; decide⟩, hS⟩ ?_
    clear hS
    rintro j w2 ⟨⟨hj, hjd, hb⟩, hS⟩
    by_cases hc : j < 8 ∧ j < D.length
    · obtain ⟨hj8, hjr⟩ := hc
      have hsn := beV_snoc (D.take j) D[j]
      rw [← List.take_succ_eq_append_getElem hjr] at hsn
      have hgd : k.getD ((p : Int) + ((j + 1 : Nat) : Int)).toNat 0 = D[j] := by
        rw [show ((p : Int) + ((j + 1 : Nat) : Int)).toNat = (p + 1) + j by omega]
        subst hD
        simp [List.getD, List.getElem_drop, List.getElem?_eq_getElem (show (p + 1) + j < k.length by omega)]
      have hx := (D[j]).toNat_lt
      have hlt : beV (D.take j) < 72057594037927936 := Nat.lt_of_lt_of_le hb (Nat.pow_le_pow_right (n := 256) (by omega) (by omega : j ≤ 7))
      have hb2 : beV (D.take (j + 1)) < 256 ^ (j + 1) := by rw [Nat.pow_succ]; omega
      generalize D[j] = dh at hsn hgd hx
      (repeat (refine jt ⟨?_⟩; refine hS.st rfl rfl ?_; intro _ hS)); refine jt ⟨?_⟩
      rw [hgd]
      have hst : IntKind.u64.wrap (256 * (beV (D.take j) : Int) + IntKind.u64.wrap (dh.toNat : Int)) = ((beV (D.take (j + 1)) : Nat) : Int) := by
        have hw : IntKind.u64.wrap ((dh.toNat : Nat) : Int) = ((dh.toNat : Nat) : Int) := by
          rw [wrapU .u64 rfl, show dh.toNat % 2 ^ IntKind.u64.bits = dh.toNat from Nat.mod_eq_of_lt (show dh.toNat < 18446744073709551616 by omega)]
        have hq : 256 * (beV (D.take j) : Int) + (dh.toNat : Int) = ((256 * beV (D.take j) + dh.toNat : Nat) : Int) := by simp
        rw [hw, hq, wrapU .u64 rfl, show (256 * beV (D.take j) + dh.toNat) % 2 ^ IntKind.u64.bits = 256 * beV (D.take j) + dh.toNat from Nat.mod_eq_of_lt (show 256 * beV (D.take j) + dh.toNat < 18446744073709551616 by omega), hsn]
      (repeat (refine jt ⟨?_⟩; refine hS.st rfl rfl ?_; intro _ hS)); refine jt ⟨?_⟩
      rw [hst]
      (repeat (refine jt ⟨?_⟩; refine hS.st rfl rfl ?_; intro _ hS)); refine jt ⟨?_⟩
      exact ⟨j + 1, ⟨rfl, rfl, rfl, rfl, rfl, rfl, trivial⟩, ⟨⟨by omega, by omega, hb2⟩, hS⟩, by omega⟩
    · have hend : D.take j = D.take 8 := by
        by_cases h8 : j = 8
        · rw [h8]
        · rw [List.take_of_length_le (by omega), List.take_of_length_le (by omega)]
      rw [hend]
      have hbl : beV (D.take 8) < 18446744073709551616 := by
        rw [hend] at hb
        exact Nat.lt_of_lt_of_le hb (Nat.pow_le_pow_right (n := 256) (by omega) hj)
      by_cases h8 : j < 8
      · have hjd2 : ¬ j < D.length := fun h => hc ⟨h8, h⟩
        (repeat (refine jt ⟨?_⟩; refine hS.st rfl rfl ?_; intro _ hS)); refine jt ⟨?_⟩
        obtain ⟨u, hu1, hu2, hu3⟩ := sub_top (beV (D.take 8)) hbl
        rw [hu1]
        refine IntG.mk ?_
        rw [hu2]
        (repeat (refine jt ⟨?_⟩; refine hS.st rfl rfl ?_; intro _ hS)); refine jt ⟨?_⟩
        exact ⟨rfl, hS.nil⟩
      · (repeat (refine jt ⟨?_⟩; refine hS.st rfl rfl ?_; intro _ hS)); refine jt ⟨?_⟩
        obtain ⟨u, hu1, hu2, hu3⟩ := sub_top (beV (D.take 8)) hbl
        rw [hu1]
        refine IntG.mk ?_
        rw [hu2]
        (repeat (refine jt ⟨?_⟩; refine hS.st rfl rfl ?_; intro _ hS)); refine jt ⟨?_⟩
        exact ⟨rfl, hS.nil⟩
  · have hn1 : ¬ ((ch.toNat : Nat) : Int) = 1 := fun h => h1 (UInt8.toNat_inj.1 (by show _ = 1; omega))
    rw [if_neg h1]
    (repeat (refine jt ⟨?_⟩; refine hS.st rfl rfl ?_; intro _ hS)); refine jt ⟨?_⟩
    generalize hD : k.drop (p + 1) = D at hdl
    refine SemW.loop (fun x : TXI => [(0, Str k), (1, .int .i64 p), (4, ptr b4), (5, .int .i64 0), (8, .slice x.a x.out.length x.c), (9, .int .i64 (p + 1 + x.i : Nat))])
      (fun x w' => (x.i ≤ D.length ∧ x.out.length ≤ x.i ∧ lxM D = (x.out ++ (lxM (D.drop x.i)).1, x.i + (lxM (D.drop x.i)).2)) ∧ ∃ L, Vec T_uint8 1 x.a x.out.length x.c (x.out.map byteV) L ∧ St w [] (L ++ [(b4, .cells ⟨partZ⟩ T_api_Part (0, 0))]) w') (fun x => D.length - x.i) ⟨0, [], none, 0⟩
      ⟨rfl, rfl, rfl, rfl, rfl, rfl, trivial⟩ ⟨⟨Nat.zero_le _, Nat.le_refl _, by simp⟩, [], Vec.nil, hS⟩ ?_
    clear hS
    rintro ⟨i, out, a, c⟩ w2 ⟨⟨hi, hol, hx⟩, L, hv, hS⟩
    simp only at hi hol hx hv hS ⊢
    by_cases hil : i + 1 < D.length
    · have e1 := List.drop_eq_getElem_cons (show i < D.length by omega)
      have e2 := List.drop_eq_getElem_cons hil
      have hg1 : k.getD (((p + 1 + i : Nat) : Int)).toNat 0 = D[i] := by
        rw [show (((p + 1 + i : Nat) : Int)).toNat = (p + 1) + i by omega]
        subst hD
        simp [List.getD, List.getElem_drop, List.getElem?_eq_getElem (show (p + 1) + i < k.length by omega)]
      have hg2 : k.getD (((p + 1 + i : Nat) : Int) + 1).toNat 0 = D[i + 1] := by
        rw [show (((p + 1 + i : Nat) : Int) + 1).toNat = (p + 1) + (i + 1) by omega]
        subst hD
        simp [List.getD, List.getElem_drop, List.getElem?_eq_getElem (show (p + 1) + (i + 1) < k.length by omega)]
      generalize D[i] = x at e1 hg1
      generalize D[i + 1] = y at e2 hg2
      have hxb := x.toNat_lt
      have hyb := y.toNat_lt
      (repeat (refine jt ⟨?_⟩; refine hS.st rfl rfl ?_; intro _ hS)); refine jt ⟨?_⟩
      rw [hg1]
      by_cases hc : x = 0
      · have hz : ((x.toNat : Nat) : Int) = 0 := by rw [hc]; rfl
        (repeat (refine jt ⟨?_⟩; refine hS.st rfl rfl ?_; intro _ hS)); refine jt ⟨?_⟩
        rw [hg2]
        by_cases hd : y = 0
        · have hz2 : ((y.toNat : Nat) : Int) = 0 := by rw [hd]; rfl
          have hres : lxM D = (out, i) := by rw [hx, e1, e2, lxM, if_neg (by simp [hc]), if_neg (by simp [hd])]; simp
          (repeat (refine jt ⟨?_⟩; refine hS.st rfl rfl ?_; intro _ hS)); refine jt ⟨?_⟩
          rw [hres]
          refine toStr (T := []) tblOk rfl rfl rfl rfl rfl rfl (bs := out) rfl (fun w' hw' => by subst hw'; exact hv.arr hS (by simp)) ?_
          (repeat (refine jt ⟨?_⟩; refine hS.st rfl rfl ?_; intro _ hS)); refine jt ⟨?_⟩
          exact ⟨rfl, hS.nil⟩
        · have hn2 : ¬ ((y.toNat : Nat) : Int) = 0 := fun h => hd (UInt8.toNat_inj.1 (by show _ = 0; omega))
          (repeat (refine jt ⟨?_⟩; refine hS.st rfl rfl ?_; intro _ hS)); refine jt ⟨?_⟩
          rw [hg1]
          (repeat (refine jt ⟨?_⟩; refine hS.st rfl rfl ?_; intro _ hS)); refine jt ⟨?_⟩
          refine hS.al ?_
          intro q w4 _ hS
          (repeat (refine jt ⟨?_⟩; refine hS.st rfl rfl ?_; intro _ hS)); refine jt ⟨?_⟩
          refine St.app (sz := 1) (m := 1) tblOk rfl rfl rfl rfl hS hv (news := [byteV x]) rfl (by have := hS.arr (b := q) (T' := []) (by simp); exact this) rfl (by show (_ + _) * 1 ≤ _; omega) (by omega) ?_
          intro a2 c2 L2 w9 hv hS
          have e9 : out.map byteV ++ [byteV x] = (out ++ [x]).map byteV := by simp
          have e8 : out.length + 1 = (out ++ [x]).length := by simp
          rw [e9, e8] at hv
          rw [e8]
          (repeat (refine jt ⟨?_⟩; refine hS.st rfl rfl ?_; intro _ hS)); refine jt ⟨?_⟩
          rw [hg1]
          (repeat (refine jt ⟨?_⟩; refine hS.st rfl rfl ?_; intro _ hS)); refine jt ⟨?_⟩
          refine ⟨⟨i + 1 + 1, out ++ [x], a2, c2⟩, ⟨rfl, rfl, rfl, rfl, rfl, rfl, trivial⟩, ⟨⟨by simp only; omega, by simp only [List.length_append, List.length_singleton]; omega, ?_⟩, L2, hv, hS.sub (List.sublist_cons_self _ _)⟩, by simp only; omega⟩
          simp only
          rw [hx, e1, e2, lxM, if_neg (by simp [hc]), if_pos (by simp [hd])]
          simp only [List.append_assoc, List.singleton_append, Prod.mk.injEq, hc, true_and]
          omega
      · have hn2 : ¬ ((x.toNat : Nat) : Int) = 0 := fun h => hc (UInt8.toNat_inj.1 (by show _ = 0; omega))
        (repeat (refine jt ⟨?_⟩; refine hS.st rfl rfl ?_; intro _ hS)); refine jt ⟨?_⟩
        rw [hg1]
        (repeat (refine jt ⟨?_⟩; refine hS.st rfl rfl ?_; intro _ hS)); refine jt ⟨?_⟩
        refine hS.al ?_
        intro q w4 _ hS
        (repeat (refine jt ⟨?_⟩; refine hS.st rfl rfl ?_; intro _ hS)); refine jt ⟨?_⟩
        refine St.app (sz := 1) (m := 1) tblOk rfl rfl rfl rfl hS hv (news := [byteV x]) rfl (by have := hS.arr (b := q) (T' := []) (by simp); exact this) rfl (by show (_ + _) * 1 ≤ _; omega) (by omega) ?_
        intro a2 c2 L2 w9 hv hS
        have e9 : out.map byteV ++ [byteV x] = (out ++ [x]).map byteV := by simp
        have e8 : out.length + 1 = (out ++ [x]).length := by simp
        rw [e9, e8] at hv
        rw [e8]
        (repeat (refine jt ⟨?_⟩; refine hS.st rfl rfl ?_; intro _ hS)); refine jt ⟨?_⟩
        rw [hg1]
        (repeat (refine jt ⟨?_⟩; refine hS.st rfl rfl ?_; intro _ hS)); refine jt ⟨?_⟩
        refine ⟨⟨i + 1, out ++ [x], a2, c2⟩, ⟨rfl, rfl, rfl, rfl, rfl, rfl, trivial⟩, ⟨⟨by simp only; omega, by simp only [List.length_append, List.length_singleton]; omega, ?_⟩, L2, hv, hS.sub (List.sublist_cons_self _ _)⟩, by simp only; omega⟩
        simp only
        rw [hx, e1, e2, lxM, if_pos hc]
        simp only [List.append_assoc, List.singleton_append, Prod.mk.injEq, true_and]
        omega
    · have hres : lxM D = (out, i) := by
        have hn : (D.drop i).length ≤ 1 := by rw [List.length_drop]; omega
        rw [hx]
        match D.drop i, hn with
        | [], _ => simp [lxM]
        | [_], _ => simp [lxM]
      (repeat (refine jt ⟨?_⟩; refine hS.st rfl rfl ?_; intro _ hS)); refine jt ⟨?_⟩
      rw [hres]
      refine toStr (T := []) tblOk rfl rfl rfl rfl rfl rfl (bs := out) rfl (fun w' hw' => by subst hw'; exact hv.arr hS (by simp)) ?_
      (repeat (refine jt ⟨?_⟩; refine hS.st rfl rfl ?_; intro _ hS)); refine jt ⟨?_⟩
      exact ⟨rfl, hS.nil⟩
theorem looseP_next (k : Bytes) (p : Nat) (hp : p < k.length) : p < (looseP k p).2 ∧ (looseP k p).2 ≤ k.length + 9 ∧ (looseP k p).1.okN ∧ (partG (looseP k p).1).length + 9 * p ≤ 9 * (looseP k p).2 := by
  unfold looseP
  split
  · refine ⟨by simp only; omega, by simp only; omega, ?_, ?_⟩
    · show -9223372036854775808 ≤ unb _ ∧ unb _ ≤ 9223372036854775807
      have hl : ((k.drop (p + 1)).take 8).length ≤ 8 := List.length_take_le _ _
      have hb := beV_lt ((k.drop (p + 1)).take 8)
      have : beV ((k.drop (p + 1)).take 8) < 18446744073709551616 := Nat.lt_of_lt_of_le hb (Nat.pow_le_pow_right (n := 256) (by omega) hl)
      unfold unb; omega
    · simp only [partG, List.length_cons, be8_len]; omega
  · have h := lxM_le _ (k.drop (p + 1)) (Nat.le_refl _)
    have h2 := escB_le (lxM (k.drop (p + 1))).1
    rw [List.length_drop] at h
    refine ⟨by simp only; omega, by simp only; omega, trivial, ?_⟩
    simp only [partG, List.length_cons, List.length_append, List.length_nil]; omega
theorem looseP_spl {k : Bytes} {p : Nat} (hp : p < k.length) {qs : List PartM} (h : Spl (k.drop p) qs) : ∃ r, qs = (looseP k p).1 :: r ∧ Spl (k.drop (looseP k p).2) r := by
  have e := List.drop_eq_getElem_cons hp
  have hg : k.getD p 0 = k[p] := by simp [List.getD, List.getElem?_eq_getElem hp]
  unfold looseP
  rw [hg]
  rw [e] at h
  generalize k[p] = c at h
  have hdd : ∀ n, k.drop (p + 1 + n) = (k.drop (p + 1)).drop n := fun n => by rw [List.drop_drop]
  by_cases h1 : c = 1
  · rw [if_pos h1]
    subst h1
    by_cases h8 : 8 ≤ (k.drop (p + 1)).length
    · obtain ⟨r, h2, h3⟩ := (spl_num h8).1 h
      refine ⟨r, h2, ?_⟩
      show Spl (k.drop (p + 9)) r
      rw [show p + 9 = p + 1 + 8 by omega, hdd]; exact h3
    · exact absurd h (spl_num_no (by omega) qs)
  · rw [if_neg h1]
    by_cases h2 : c = 2
    · subst h2
      cases ht : txtM (k.drop (p + 1)) with
      | none => exact absurd h (spl_text_no ht qs)
      | some z =>
        obtain ⟨s, z⟩ := z
        obtain ⟨r, h3, h4⟩ := (spl_text ht).1 h
        have hx := txtM_iff.1 ht
        have hl := lxM_esc s z
        rw [← hx] at hl
        rw [hl]
        refine ⟨r, h3, ?_⟩
        show Spl (k.drop (p + 1 + (escB s).length + 2)) r
        rw [show p + 1 + (escB s).length + 2 = p + 1 + ((escB s).length + 2) by omega, hdd, hx]
        have : (escB s ++ 0 :: 0 :: z).drop ((escB s).length + 2) = z := by
          rw [← List.drop_drop, List.drop_left]; rfl
        rw [this]; exact h4
    · exact absurd h (spl_other h1 h2 qs)
structure S3I where
  at' : Nat
  out : List PartM
  a : Option Addr
  c : Nat
set_option maxHeartbeats 4000000 in
theorem Split03_spec {w : World} {k : Bytes} (hk : k.length ≤ 1048576) : Cl Tryz.prog f_tarmacref03_Split [Str k] w fun v w' => SplPost k v w w' := by
  have hS := St.start w
  refine en_tarmacref03_Split rfl ?_
  refine jq ⟨?_⟩
  refine SemW.loop (fun x : S3I => [(0, Str k), (2, .slice none 0 0), (3, .int .i64 0), (4, .slice x.a x.out.length x.c), (5, .int .i64 x.at')])
    (fun x w' => (x.at' ≤ k.length + 9 ∧ x.out.length ≤ x.at' ∧ (∀ p ∈ x.out, p.okN) ∧ (partsG x.out).length ≤ 9 * x.at' ∧ ∀ ps, Spl k ps → ∃ qs, ps = x.out ++ qs ∧ Spl (k.drop x.at') qs) ∧ ∃ L, Vec T_api_Part 3 x.a x.out.length x.c (x.out.flatMap partC) L ∧ St w [] L w') (fun x => k.length + 9 - x.at') ⟨0, [], none, 0⟩
    ⟨rfl, rfl, rfl, rfl, rfl, trivial⟩ ⟨⟨Nat.zero_le _, Nat.le_refl _, by nofun, Nat.le_refl _, fun ps h => ⟨ps, rfl, h⟩⟩, [], Vec.nil, hS⟩ ?_
  clear hS
  rintro ⟨p, out, a, c⟩ w2 ⟨⟨hp9, hol, hok, hB, hx⟩, L, hv, hS⟩
  simp only at hp9 hol hok hB hx hv hS ⊢
  by_cases hp : p < k.length
  · obtain ⟨hn1, hn2, hn3, hn4⟩ := looseP_next k p hp
    have hsp := fun {qs} => looseP_spl (qs := qs) hp
    (repeat (refine jt ⟨?_⟩; refine hS.st rfl rfl ?_; intro _ hS)); refine jt ⟨?_⟩
    refine Cl.mono (part03_spec hk hp) ?_
    rintro _ w3 ⟨rfl, hS'⟩
    have hS := hS.call0 hS'
    generalize looseP k p = y at hn1 hn2 hn3 hn4 hsp hS
    obtain ⟨q, nx⟩ := y
    simp only at hn1 hn2 hn3 hn4 hsp hS ⊢
    rw [partC_eq]
    (repeat (refine jt ⟨?_⟩; refine hS.st rfl rfl ?_; intro _ hS)); refine jt ⟨?_⟩
    refine hS.al ?_
    intro b6 w4 _ hS
    (repeat (refine jt ⟨?_⟩; refine hS.st rfl rfl ?_; intro _ hS)); refine jt ⟨?_⟩
    refine hS.al ?_
    intro r w5 _ hS
    (repeat (refine jt ⟨?_⟩; refine hS.st rfl rfl ?_; intro _ hS)); refine jt ⟨?_⟩
    refine St.app (sz := 3) (m := 1) tblOk rfl rfl rfl rfl hS hv (news := [.int .i64 (partK q), .int .i64 (partN q), Str (partT q)]) rfl (by have := hS.arr (b := r) (T' := []) (by simp); exact this) rfl (by show (_ + _) * 32 ≤ _; omega) (by omega) ?_
    intro a2 c2 L2 w6 hv hS
    have e9 : out.flatMap partC ++ [.int .i64 (partK q), .int .i64 (partN q), Str (partT q)] = (out ++ [q]).flatMap partC := by simp [partC_eq]
    have e8 : out.length + 1 = (out ++ [q]).length := by simp
    rw [e9, e8] at hv
    rw [e8]
    (repeat (refine jt ⟨?_⟩; refine hS.st rfl rfl ?_; intro _ hS)); refine jt ⟨?_⟩
    refine ⟨⟨nx, out ++ [q], a2, c2⟩, ⟨rfl, rfl, rfl, rfl, rfl, trivial⟩, ⟨⟨hn2, by simp only [List.length_append, List.length_singleton]; omega, ?_, ?_, ?_⟩, L2, hv, hS.sub ((List.sublist_cons_self _ _).trans (List.sublist_cons_self _ _))⟩, by simp only; omega⟩
    · intro z hz
      rcases List.mem_append.1 hz with hz | hz
      · exact hok z hz
      · rw [List.mem_singleton] at hz; subst hz; exact hn3
    · simp only
      rw [partsG_app, List.length_append]
      have e7 : partsG [q] = partG q := by simp [partsG]
      rw [e7]; omega
    · intro ps hps
      obtain ⟨qs, h1, h2⟩ := hx ps hps
      obtain ⟨r, h3, h4⟩ := hsp h2
      exact ⟨r, by rw [h1, h3]; simp, h4⟩
  · have hall : ∀ ps, Spl k ps → ps = out := by
      intro ps hps
      obtain ⟨qs, h1, h2⟩ := hx ps hps
      rw [List.drop_eq_nil_of_le (by omega)] at h2
      rw [h1, spl_nil.1 h2, List.append_nil]
    (repeat (refine jt ⟨?_⟩; refine hS.st rfl rfl ?_; intro _ hS)); refine jt ⟨?_⟩
    refine Cl.mono (KeyG03_spec (ps := out) (hv.arr (L := L) hS (by simp)) hok (by omega) (by omega)) ?_
    rintro _ w3 ⟨rfl, hS'⟩
    have hS := hS.call0 hS'
    (repeat (refine jt ⟨?_⟩; refine hS.st rfl rfl ?_; intro _ hS)); refine jt ⟨?_⟩
    by_cases hk2 : partsG out = k
    · have hk3 : decide (partsG out = k) = true := decide_eq_true hk2
      rw [hk3]
      (repeat (refine jt ⟨?_⟩; refine hS.st rfl rfl ?_; intro _ hS)); refine jt ⟨?_⟩
      exact .inl ⟨out, a, c, L, rfl, ⟨hk2, hok⟩, hv, hS⟩
    · have hk3 : decide (partsG out = k) = false := decide_eq_false hk2
      rw [hk3]
      (repeat (refine jt ⟨?_⟩; refine hS.st rfl rfl ?_; intro _ hS)); refine jt ⟨?_⟩
      refine .inr ⟨rfl, fun ps hps => ?_, hS.nil⟩
      exact hk2 (by rw [← hall ps hps]; exact hps.1)
def eN (b : Bool) : Int := if b then 1 else 0
theorem numO_e (t : Bytes) : (numO t).2.1 = 0 ∨ (numO t).2.1 = 1 := by
  unfold numO; split <;> simp
theorem intO_e (t : Bytes) : (intO t).2.1 = 0 ∨ (intO t).2.1 = 1 := by
  unfold intO
  exact numO_e t
theorem eN_max (b : Bool) (e : Int) (he : e = 0 ∨ e = 1) : mxI (eN b) e = eN (b || decide (e ≠ 0)) := by
  unfold mxI eN
  rcases he with rfl | rfl <;> cases b <;> simp
theorem eN_max' (b : Bool) (e : Int) (he : e = 0 ∨ e = 1) : (if eN b < e then e else eN b) = eN (b || decide (e ≠ 0)) := eN_max b e he
/-! The reader. -/
abbrev rdC' (t : Bytes) : Obj := .cells ⟨[Str t]⟩ T_tarmacref01_Reader (0, 0)
theorem numJ_ref {t : Bytes} {k n : Nat} (h : numJ t k n) (hk : k < t.length) (hk9 : k ≤ 9) (h9 : ¬ (k = 9 ∧ 1 < t[k].toNat)) (h128 : t[k].toNat < 128) :
    (numB (n + t[k].toNat % 128 * 2 ^ (7 * k)) = t.take (k + 1) → numO t = (n + t[k].toNat % 128 * 2 ^ (7 * k), 0, t.drop (k + 1))) ∧
    (¬ numB (n + t[k].toNat % 128 * 2 ^ (7 * k)) = t.take (k + 1) → numO t = (0, 1, t)) := by
  by_cases hz : 0 < k ∧ t[k].toNat = 0
  · have hf := numJ_fail h (by rw [numS_at hk, if_pos (by omega)])
    refine ⟨fun he => ?_, fun _ => hf⟩
    exfalso
    have hlt : n + t[k].toNat % 128 * 2 ^ (7 * k) < 18446744073709551616 := (low7 n t[k].toNat k h.2.2.1 (t[k]).toNat_lt hk9 (by omega)).2
    have := (numR_iff t (n + t[k].toNat % 128 * 2 ^ (7 * k)) (t.drop (k + 1))).2 ⟨by rw [he, List.take_append_drop], hlt⟩
    unfold numO at hf
    rw [this] at hf
    simp at hf
  · have hd := numJ_done h hk (by omega) h128
    refine ⟨fun _ => hd, fun hne => ?_⟩
    exfalso
    apply hne
    have hr : numR t = some (n + t[k].toNat % 128 * 2 ^ (7 * k), t.drop (k + 1)) := by
      unfold numO at hd
      cases hr : numR t with
      | none => rw [hr] at hd; simp at hd
      | some x =>
        obtain ⟨m, r⟩ := x
        rw [hr] at hd
        simp only [Prod.mk.injEq, true_and] at hd
        rw [hd.1, hd.2]
    have h1 := ((numR_iff t _ _).1 hr).1
    have h2 : (numB (n + t[k].toNat % 128 * 2 ^ (7 * k))).length = k + 1 := by
      have := congrArg List.length h1
      rw [List.length_append, List.length_drop] at this; omega
    have h3 : (numB (n + t[k].toNat % 128 * 2 ^ (7 * k)) ++ t.drop (k + 1)).take (k + 1) = numB (n + t[k].toNat % 128 * 2 ^ (7 * k)) := List.take_left' h2
    rw [← h1] at h3
    exact h3.symm
set_option maxHeartbeats 8000000 in
set_option maxRecDepth 4000 in
theorem RNumE_spec {w : World} {b : Nat} {t : Bytes} (hh : Holds [(b, rdC' t)] w) (ht : t.length ≤ 70368744177664) :
    Cl Tryz.prog f_tarmacref01_Reader_Num [ptr b] w fun v w' => v = .tuple ⟨[.int .u64 (numO t).1, .int .i64 (numO t).2.1]⟩ ∧ St w [b] [(b, rdC' (numO t).2.2)] w' := by
  have hS : St w [b] [(b, rdC' t)] w := St.enter hh
  refine en_tarmacref01_Reader_Num rfl ?_
  refine jq ⟨?_⟩
  refine SemW.loop (fun x : Nat × Nat => [(0, ptr b), (4, .int .u64 x.2), (5, .int .i64 x.1)])
    (fun x w' => numJ t x.1 x.2 ∧ St w [b] [(b, rdC' t)] w') (fun x => 10 - x.1) (0, 0)
    ⟨rfl, rfl, rfl, trivial⟩ ⟨⟨by omega, by omega, by simp, by simp only [List.drop_zero]; cases numS 0 t <;> simp⟩, hS⟩ ?_
  rintro ⟨k, n⟩ w1 ⟨hJ, hS⟩
  simp only at hJ hS ⊢
  have hkk := hJ.1
  have hkl := hJ.2.1
  by_cases hk : k < 10 ∧ k < t.length
  rotate_left
  · have hfail := numJ_fail hJ (numS_stop hk)
    by_cases hk10 : k < 10
    · (repeat (refine jt ⟨?_⟩; refine hS.st rfl rfl ?_; intro _ hS)); refine jt ⟨?_⟩
      rw [hfail]
      exact ⟨rfl, hS⟩
    · (repeat (refine jt ⟨?_⟩; refine hS.st rfl rfl ?_; intro _ hS)); refine jt ⟨?_⟩
      rw [hfail]
      exact ⟨rfl, hS⟩
  obtain ⟨hk10, hkt⟩ := hk
  obtain ⟨c, hc⟩ : ∃ c, c = t.getD ((k : Int)).toNat 0 := ⟨_, rfl⟩
  have hct : c = t[k] := by rw [hc]; simp [hkt]
  have hclt := c.toNat_lt
  have ecm : ((c.toNat : Int).tmod 128) = ((c.toNat % 128 : Nat) : Int) := tmodN c.toNat 128
  by_cases hbad : k = 9 ∧ 1 < c.toNat
  · have hfail := numJ_fail hJ (by rw [numS_at hkt, if_pos (by rw [← hct]; omega)])
    obtain ⟨hk9, hc1⟩ := hbad
    (repeat (refine jt ⟨?_⟩; refine hS.st rfl rfl ?_; intro _ hS)); refine jt ⟨?_⟩
    rw [← hc, ecm]
    (repeat (refine jt ⟨?_⟩; refine hS.st rfl rfl ?_; intro _ hS)); refine jt ⟨?_⟩
    rw [hfail]
    exact ⟨rfl, hS⟩
  obtain ⟨P, hP⟩ : ∃ P, P = 2 ^ (7 * k) := ⟨_, rfl⟩
  have hl7 := (low7 n c.toNat k hJ.2.2.1 hclt (by omega) (by omega)).2
  rw [← hP] at hl7
  have hPle : P ≤ 2 ^ (7 * 9) := by rw [hP]; exact Nat.pow_le_pow_right (by omega) (by omega)
  have hPle : P ≤ 9223372036854775808 := hPle
  obtain ⟨cp, hcp⟩ : ∃ cp, cp = c.toNat % 128 * P := ⟨_, rfl⟩
  rw [← hcp] at hl7
  have hcpi : ((c.toNat % 128 : Nat) : Int) * (P : Int) = (cp : Int) := by rw [hcp]; simp
  have ek : ((k : Int) + 1).toNat = k + 1 := by omega
  have hwm : IntKind.u64.wrap ((c.toNat % 128 : Nat) : Int) = ((c.toNat % 128 : Nat) : Int) := by
    rw [wrapU .u64 rfl]; congr 1; exact Nat.mod_eq_of_lt (by show _ < 18446744073709551616; omega)
  by_cases hk9 : k = 9
  · (repeat (refine jt ⟨?_⟩; refine hS.st rfl rfl ?_; intro _ hS)); refine jt ⟨?_⟩
    rw [← hc, ecm, hwm]
    (repeat (refine jt ⟨?_⟩; refine hS.st rfl rfl ?_; intro _ hS)); refine jt ⟨?_⟩
    refine SemW.loop (fun i : Nat => [(0, ptr b), (4, .int .u64 n), (5, .int .i64 k), (6, .int .u64 (c.toNat % 128 : Nat)), (7, .int .u64 (2 ^ (7 * i) : Nat)), (8, .int .i64 i)])
      (fun i w' => i ≤ k ∧ St w [b] [(b, rdC' t)] w') (fun i => k - i) 0
      ⟨rfl, rfl, rfl, rfl, rfl, rfl, trivial⟩ ⟨Nat.zero_le _, hS⟩ ?_
    rintro i w2 ⟨hi, hS⟩
    by_cases hik : i < k
    · have h2 : 2 ^ (7 * (i + 1)) = 2 ^ (7 * i) * 128 := by rw [show 7 * (i + 1) = 7 * i + 7 by omega, Nat.pow_add]
      have h3 : 2 ^ (7 * (i + 1)) ≤ P := by rw [hP]; exact Nat.pow_le_pow_right (by omega) (by omega)
      obtain ⟨U, hU⟩ : ∃ U, U = 2 ^ (7 * i) := ⟨_, rfl⟩
      rw [← hU] at h2 ⊢
      (repeat (refine jt ⟨?_⟩; refine hS.st rfl rfl ?_; intro _ hS)); refine jt ⟨?_⟩
      exact ⟨i + 1, ⟨rfl, rfl, rfl, rfl, congrArg (Value.int .u64) (by rw [h2]; omega), rfl, trivial⟩, ⟨by omega, hS⟩, by omega⟩
    have hik : i = k := by omega
    subst hik
    rw [← hP]
    (repeat (refine jt ⟨?_⟩; refine hS.st rfl rfl ?_; intro _ hS)); refine jt ⟨?_⟩
    rw [hcpi]
    by_cases h128 : c.toNat < 128
    · obtain ⟨hyes, hno⟩ := numJ_ref hJ hkt (by omega) (by rw [← hct]; exact hbad) (by rw [← hct]; exact h128)
      rw [← hct, ← hP, ← hcp] at hyes hno
      (repeat (refine jt ⟨?_⟩; refine hS.st rfl rfl ?_; intro _ hS)); refine jt ⟨?_⟩
      rw [← hc]
      by_cases he : numB (n + cp) = t.take (i + 1)
      · (repeat (refine jt ⟨?_⟩; refine hS.st rfl rfl ?_; intro _ hS)); refine jt ⟨?_⟩
        refine SemW.draw tblOk mixed (fun w' => St w [b] [(b, rdC' t)] w') [] [0, 2, 3, 4, 5, 6, 7, 8, 1, 9] (by kernel_rfl) hS.drew ?_
        have hS := hS.drew
        refine jr ⟨?_⟩
        rw [show (n : Int) + (cp : Int) = ((n + cp : Nat) : Int) by omega, ek]
        refine Cl.mono (NumE_spec (n + cp) hl7) ?_
        rintro _ w4 ⟨rfl, hS'⟩
        have hS := hS.call0 hS'
        refine Chk.mk hS ?_
        (repeat (refine jt ⟨?_⟩; refine hS.st rfl rfl ?_; intro _ hS)); refine jt ⟨?_⟩
        rw [hyes he]
        rw [ek] at hS
        exact ⟨rfl, hS⟩
      · (repeat (refine jt ⟨?_⟩; refine hS.st rfl rfl ?_; intro _ hS)); refine jt ⟨?_⟩
        refine SemW.draw tblOk mixed (fun w' => St w [b] [(b, rdC' t)] w') [] [0, 2, 3, 4, 5, 6, 7, 8, 1, 9] (by kernel_rfl) hS.drew ?_
        have hS := hS.drew
        refine jr ⟨?_⟩
        rw [show (n : Int) + (cp : Int) = ((n + cp : Nat) : Int) by omega, ek]
        refine Cl.mono (NumE_spec (n + cp) hl7) ?_
        rintro _ w4 ⟨rfl, hS'⟩
        have hS := hS.call0 hS'
        refine Chk.mk hS ?_
        have hfail := hno he
        (repeat (refine jt ⟨?_⟩; refine hS.st rfl rfl ?_; intro _ hS)); refine jt ⟨?_⟩
        rw [hfail]
        exact ⟨rfl, hS⟩
    · have hnx := numJ_next hJ hkt (by rw [← hct]; omega) (by rw [← hct]; exact h128)
      rw [← hct, ← hP, ← hcp] at hnx
      first
      | (exfalso; omega)
      | ((repeat (refine jt ⟨?_⟩; refine hS.st rfl rfl ?_; intro _ hS)); refine jt ⟨?_⟩
         rw [← hc]
         (repeat (refine jt ⟨?_⟩; refine hS.st rfl rfl ?_; intro _ hS)); refine jt ⟨?_⟩
         exact ⟨(i + 1, n + cp), ⟨rfl, rfl, rfl, trivial⟩, ⟨hnx, hS⟩, by simp only; omega⟩)
  · (repeat (refine jt ⟨?_⟩; refine hS.st rfl rfl ?_; intro _ hS)); refine jt ⟨?_⟩
    rw [← hc, ecm, hwm]
    (repeat (refine jt ⟨?_⟩; refine hS.st rfl rfl ?_; intro _ hS)); refine jt ⟨?_⟩
    refine SemW.loop (fun i : Nat => [(0, ptr b), (4, .int .u64 n), (5, .int .i64 k), (6, .int .u64 (c.toNat % 128 : Nat)), (7, .int .u64 (2 ^ (7 * i) : Nat)), (8, .int .i64 i)])
      (fun i w' => i ≤ k ∧ St w [b] [(b, rdC' t)] w') (fun i => k - i) 0
      ⟨rfl, rfl, rfl, rfl, rfl, rfl, trivial⟩ ⟨Nat.zero_le _, hS⟩ ?_
    rintro i w2 ⟨hi, hS⟩
    by_cases hik : i < k
    · have h2 : 2 ^ (7 * (i + 1)) = 2 ^ (7 * i) * 128 := by rw [show 7 * (i + 1) = 7 * i + 7 by omega, Nat.pow_add]
      have h3 : 2 ^ (7 * (i + 1)) ≤ P := by rw [hP]; exact Nat.pow_le_pow_right (by omega) (by omega)
      obtain ⟨U, hU⟩ : ∃ U, U = 2 ^ (7 * i) := ⟨_, rfl⟩
      rw [← hU] at h2 ⊢
      (repeat (refine jt ⟨?_⟩; refine hS.st rfl rfl ?_; intro _ hS)); refine jt ⟨?_⟩
      exact ⟨i + 1, ⟨rfl, rfl, rfl, rfl, congrArg (Value.int .u64) (by rw [h2]; omega), rfl, trivial⟩, ⟨by omega, hS⟩, by omega⟩
    have hik : i = k := by omega
    subst hik
    rw [← hP]
    (repeat (refine jt ⟨?_⟩; refine hS.st rfl rfl ?_; intro _ hS)); refine jt ⟨?_⟩
    rw [hcpi]
    by_cases h128 : c.toNat < 128
    · obtain ⟨hyes, hno⟩ := numJ_ref hJ hkt (by omega) (by rw [← hct]; exact hbad) (by rw [← hct]; exact h128)
      rw [← hct, ← hP, ← hcp] at hyes hno
      (repeat (refine jt ⟨?_⟩; refine hS.st rfl rfl ?_; intro _ hS)); refine jt ⟨?_⟩
      rw [← hc]
      by_cases he : numB (n + cp) = t.take (i + 1)
      · (repeat (refine jt ⟨?_⟩; refine hS.st rfl rfl ?_; intro _ hS)); refine jt ⟨?_⟩
        refine SemW.draw tblOk mixed (fun w' => St w [b] [(b, rdC' t)] w') [] [0, 2, 3, 4, 5, 6, 7, 8, 1, 9] (by kernel_rfl) hS.drew ?_
        have hS := hS.drew
        refine jr ⟨?_⟩
        rw [show (n : Int) + (cp : Int) = ((n + cp : Nat) : Int) by omega, ek]
        refine Cl.mono (NumE_spec (n + cp) hl7) ?_
        rintro _ w4 ⟨rfl, hS'⟩
        have hS := hS.call0 hS'
        refine Chk.mk hS ?_
        (repeat (refine jt ⟨?_⟩; refine hS.st rfl rfl ?_; intro _ hS)); refine jt ⟨?_⟩
        rw [hyes he]
        rw [ek] at hS
        exact ⟨rfl, hS⟩
      · (repeat (refine jt ⟨?_⟩; refine hS.st rfl rfl ?_; intro _ hS)); refine jt ⟨?_⟩
        refine SemW.draw tblOk mixed (fun w' => St w [b] [(b, rdC' t)] w') [] [0, 2, 3, 4, 5, 6, 7, 8, 1, 9] (by kernel_rfl) hS.drew ?_
        have hS := hS.drew
        refine jr ⟨?_⟩
        rw [show (n : Int) + (cp : Int) = ((n + cp : Nat) : Int) by omega, ek]
        refine Cl.mono (NumE_spec (n + cp) hl7) ?_
        rintro _ w4 ⟨rfl, hS'⟩
        have hS := hS.call0 hS'
        refine Chk.mk hS ?_
        have hfail := hno he
        (repeat (refine jt ⟨?_⟩; refine hS.st rfl rfl ?_; intro _ hS)); refine jt ⟨?_⟩
        rw [hfail]
        exact ⟨rfl, hS⟩
    · have hnx := numJ_next hJ hkt (by rw [← hct]; omega) (by rw [← hct]; exact h128)
      rw [← hct, ← hP, ← hcp] at hnx
      first
      | (exfalso; omega)
      | ((repeat (refine jt ⟨?_⟩; refine hS.st rfl rfl ?_; intro _ hS)); refine jt ⟨?_⟩
         rw [← hc]
         (repeat (refine jt ⟨?_⟩; refine hS.st rfl rfl ?_; intro _ hS)); refine jt ⟨?_⟩
         exact ⟨(i + 1, n + cp), ⟨rfl, rfl, rfl, trivial⟩, ⟨hnx, hS⟩, by simp only; omega⟩)
theorem Unfold_spec {w : World} (u : Nat) (hu : u < 18446744073709551616) : Cl Tryz.prog f_tarmacref01_Unfold [u64V u] w fun v w' => v = .int .i64 (unzig u) ∧ St w [] [] w' := by
  have hS := St.start w
  unfold u64V unzig
  have e1 : ((u : Int).tmod 2) = ((u % 2 : Nat) : Int) := tmodN u 2
  have e2 : ((u : Int).tdiv 2) = ((u / 2 : Nat) : Int) := tdivN u 2
  refine en_tarmacref01_Unfold rfl ?_
  by_cases h : u % 2 = 0
  · rw [if_pos h]
    refine jq ⟨?_⟩
    rw [e1]
    refine jq ⟨?_⟩
    rw [e2]
    refine jq ⟨?_⟩
    exact ⟨rfl, hS⟩
  · rw [if_neg h]
    refine jq ⟨?_⟩
    rw [e1]
    refine jq ⟨?_⟩
    rw [e2]
    refine jq ⟨?_⟩
    exact ⟨congrArg (Value.int .i64) (by omega), hS⟩
set_option maxHeartbeats 1000000 in
theorem RIntE_spec {w : World} {b : Nat} {t : Bytes} (hh : Holds [(b, rdC' t)] w) (ht : t.length ≤ 70368744177664) :
    Cl Tryz.prog f_tarmacref01_Reader_Int [ptr b] w fun v w' => v = .tuple ⟨[.int .i64 (intO t).1, .int .i64 (intO t).2.1]⟩ ∧ St w [b] [(b, rdC' (intO t).2.2)] w' := by
  refine en_tarmacref01_Reader_Int rfl ?_
  refine jq ⟨?_⟩
  refine Cl.mono (RNumE_spec hh ht) ?_
  rintro _ w1 ⟨rfl, hS⟩
  have hlt := numO_lt t
  have h0 : (numO t).2.1 ≠ 0 → (numO t).1 = 0 := by
    unfold numO
    cases numR t with
    | none => intro _; rfl
    | some x => intro h; exact absurd rfl h
  unfold intO
  generalize numO t = x at hS hlt h0 ⊢
  obtain ⟨u, e, r⟩ := x
  simp only at hS hlt h0 ⊢
  by_cases he : e = 0
  · refine jq ⟨?_⟩
    refine Cl.mono (Unfold_spec u hlt) ?_
    rintro _ w2 ⟨rfl, hS'⟩
    have hS := hS.call0 hS'
    refine jq ⟨?_⟩
    rw [he]
    exact ⟨rfl, hS⟩
  · have hu := h0 he
    subst hu
    refine jq ⟨?_⟩
    exact ⟨rfl, hS⟩
set_option maxHeartbeats 1000000 in
theorem RTextE_spec {w : World} {b : Nat} {t : Bytes} (hh : Holds [(b, rdC' t)] w) (ht : t.length ≤ 70368744177664) :
    Cl Tryz.prog f_tarmacref01_Reader_Text [ptr b] w fun v w' => v = .tuple ⟨[Str (textO t).1, .int .i64 (textO t).2.1]⟩ ∧ St w [b] [(b, rdC' (textO t).2.2)] w' := by
  have hS : St w [b] [(b, rdC' t)] w := St.enter hh
  refine en_tarmacref01_Reader_Text rfl ?_
  (repeat (refine jt ⟨?_⟩; refine hS.st rfl rfl ?_; intro _ hS)); refine jt ⟨?_⟩
  refine Cl.mono (RNumE_spec hh ht) ?_
  rintro _ w1 ⟨rfl, hS1⟩
  have hlt := numO_lt t
  have hln := numO_len t
  unfold textO textR
  cases h : numR t with
  | none =>
    have hn : numO t = (0, 1, t) := by unfold numO; rw [h]
    rw [hn] at hS1 ⊢
    simp only at hS1 ⊢
    have hS := hS1
    (repeat (refine jt ⟨?_⟩; refine hS.st rfl rfl ?_; intro _ hS)); refine jt ⟨?_⟩
    exact ⟨rfl, hS⟩
  | some x =>
    obtain ⟨m, r⟩ := x
    have hn : numO t = (m, 0, r) := by unfold numO; rw [h]
    rw [hn] at hS1 hlt hln ⊢
    simp only at hS1 hlt hln ⊢
    have hS := hS1
    by_cases hm : r.length < m
    · rw [if_pos hm]
      (repeat (refine jt ⟨?_⟩; refine hS.st rfl rfl ?_; intro _ hS)); refine jt ⟨?_⟩
      exact ⟨rfl, hS⟩
    · rw [if_neg hm]
      (repeat (refine jt ⟨?_⟩; refine hS.st rfl rfl ?_; intro _ hS)); refine jt ⟨?_⟩
      exact ⟨rfl, hS⟩
structure RWI where
  i : Nat
  s : RB
  l : List RowM
  a : Option Addr
  c : Nat
theorem lRows_go (n : Nat) (s : RB) (l : List RowM) (h : s.bad = false) : lRows (n + 1) (s, l) = lRows n ((lRow s).2, l ++ [(lRow s).1]) := by
  rw [lRows, if_neg (by rw [h]; decide)]
theorem lRows_halt (n : Nat) (s : RB) (l : List RowM) (h : s.bad = true) : lRows n (s, l) = (s, l) := by
  cases n with
  | zero => rfl
  | succ n => rw [lRows, if_pos h]
theorem wText_t (s : RB) : (wText s).2.t.length ≤ s.t.length := wText_tlen s
theorem lRow_dec {s : RB} (h : s.bad = false) : (lRow s).2.t.length + 1 ≤ s.t.length + bitW (lRow s).2.bad := by
  have h1 := intO_len s.t
  have h2 := rbInt_t (rbInt s).2
  have h3 := rbInt_t (rbInt (rbInt s).2).2
  have h4 := rbNum_t (rbInt (rbInt (rbInt s).2).2).2
  have h5 := wText_t (rbNum (rbInt (rbInt (rbInt s).2).2).2).2
  have e0 : (lRow s).2 = (wText (rbNum (rbInt (rbInt (rbInt s).2).2).2).2).2 := rfl
  have e1 : (rbInt s).2.t = (intO s.t).2.2 := rfl
  have hle : (lRow s).2.t.length ≤ (intO s.t).2.2.length := by rw [e0, ← e1]; omega
  by_cases hb : (intO s.t).2.1 = 0
  · have h6 := intO_len' hb
    have := bitW (lRow s).2.bad
    omega
  · have hbad : (lRow s).2.bad = true := by
      rw [e0]
      unfold wText rbNum rbInt
      simp [hb]
    rw [hbad]
    show _ + 1 ≤ _ + 1
    omega
theorem eN_five (e1 e2 e3 e4 e5 : Int) (h1 : e1 = 0 ∨ e1 = 1) (h2 : e2 = 0 ∨ e2 = 1) (h3 : e3 = 0 ∨ e3 = 1) (h4 : e4 = 0 ∨ e4 = 1) (h5 : e5 = 0 ∨ e5 = 1) :
    mxI (mxI (mxI (mxI e1 e2) e3) e4) e5 = eN (((((false || decide (e1 ≠ 0)) || decide (e2 ≠ 0)) || decide (e3 ≠ 0)) || decide (e4 ≠ 0)) || decide (e5 ≠ 0)) := by
  unfold mxI eN
  rcases h1 with rfl | rfl <;> rcases h2 with rfl | rfl <;> rcases h3 with rfl | rfl <;> rcases h4 with rfl | rfl <;> rcases h5 with rfl | rfl <;> decide
def RowsPost (y : RB × List RowM) (rb : Nat) (v : Value) (w w' : World) : Prop :=
  ∃ a cap L, v = .tuple ⟨[.slice a y.2.length cap, .int .i64 (eN y.1.bad)]⟩ ∧ Vec T_api_Row 5 a y.2.length cap (y.2.flatMap rowC) L ∧ St w [rb] ((rb, rdC' y.1.t) :: L) w'
set_option maxRecDepth 4000 in
set_option maxHeartbeats 8000000 in
theorem ReadRows22_spec {w : World} {rb : Nat} {t : Bytes} (hh : Holds [(rb, rdC' t)] w) (ht : t.length ≤ 1000000000) :
    Cl Tryz.prog f_tarmacref22_ReadRows [ptr rb] w fun v w' => RowsPost (lRowsT t) rb v w w' := by
  have hS : St w [rb] [(rb, rdC' t)] w := St.enter hh
  have hb0 : eN false = 0 := rfl
  unfold lRowsT
  refine en_tarmacref22_ReadRows rfl ?_
  (repeat (refine jt ⟨?_⟩; refine hS.st rfl rfl ?_; intro _ hS)); refine jt ⟨?_⟩
  refine Cl.mono (RNumE_spec (t := t) (hS.part (L := [(rb, rdC' t)])) (by omega)) ?_
  rintro _ w1 ⟨rfl, hS'⟩
  have hS := hS.call (L := [(rb, rdC' t)]) hS'
  have he := numO_e t
  have hlt := numO_lt t
  have hln := numO_len t
  unfold rbNum
  generalize numO t = y at hS he hlt hln ⊢
  obtain ⟨n, e, t1⟩ := y
  simp only at hS he hlt hln ⊢
  have hee : e = eN (false || decide (e ≠ 0)) := by rcases he with rfl | rfl <;> rfl
  generalize (false || decide (e ≠ 0)) = b0 at hee ⊢
  subst hee
  clear he
  (repeat (refine jt ⟨?_⟩; refine hS.st rfl rfl ?_; intro _ hS)); refine jt ⟨?_⟩
  refine SemW.loop (fun z : RWI => [(0, ptr rb), (4, .int .u64 n), (5, .int .i64 (eN z.s.bad)), (6, .slice z.a z.l.length z.c), (7, .int .u64 z.i)])
    (fun z w' => (z.i ≤ n ∧ lRows (n - z.i) (z.s, z.l) = lRows n (⟨t1, b0⟩, []) ∧ z.s.t.length ≤ t.length ∧ z.l.length + z.s.t.length ≤ t.length + bitW z.s.bad) ∧ ∃ L, Vec T_api_Row 5 z.a z.l.length z.c (z.l.flatMap rowC) L ∧ St w [rb] ((rb, rdC' z.s.t) :: L) w') (fun z => n - z.i) ⟨0, ⟨t1, b0⟩, [], none, 0⟩
    ⟨rfl, rfl, rfl, rfl, rfl, trivial⟩ ⟨⟨Nat.zero_le _, rfl, hln, by simp only [List.length_nil]; omega⟩, [], Vec.nil, hS⟩ ?_
  clear hS hS'
  generalize hX : lRows n (⟨t1, b0⟩, []) = X
  rintro ⟨i, ⟨t2, bd⟩, l, a, c⟩ w5 ⟨⟨hi, hx, htl, hsz⟩, L, hv, hS⟩
  simp only at hi hx htl hsz hv hS ⊢
  have hgo : i < n ∧ bd = false ∨ (⟨t2, bd⟩, l) = X ∧ (i = n ∨ bd = true) := by
    by_cases hin : i < n
    · cases bd with
      | true => rw [lRows_halt _ _ _ rfl] at hx; exact .inr ⟨hx, .inr rfl⟩
      | false => exact .inl ⟨hin, rfl⟩
    · rw [show n - i = 0 by omega] at hx; exact .inr ⟨hx, .inl (by omega)⟩
  rcases hgo with ⟨hin, rfl⟩ | ⟨hX2, hend⟩
  · have hb1 : bitW false = 0 := rfl
    rw [show n - i = (n - (i + 1)) + 1 by omega, lRows_go _ _ _ rfl] at hx
    have hd := lRow_dec (s := ⟨t2, false⟩) rfl
    have hM : lRow ⟨t2, false⟩ = (⟨(intO t2).1, (intO (intO t2).2.2).1, (intO (intO (intO t2).2.2).2.2).1, decide ((numO (intO (intO (intO t2).2.2).2.2).2.2).1 = 1), (textO (numO (intO (intO (intO t2).2.2).2.2).2.2).2.2).1⟩,
      ⟨(textO (numO (intO (intO (intO t2).2.2).2.2).2.2).2.2).2.2, ((((false || decide ((intO t2).2.1 ≠ 0)) || decide ((intO (intO t2).2.2).2.1 ≠ 0)) || decide ((intO (intO (intO t2).2.2).2.2).2.1 ≠ 0)) || decide ((numO (intO (intO (intO t2).2.2).2.2).2.2).2.1 ≠ 0)) || decide ((textO (numO (intO (intO (intO t2).2.2).2.2).2.2).2.2).2.1 ≠ 0)⟩) := rfl
    (repeat (refine jt ⟨?_⟩; refine hS.st rfl rfl ?_; intro _ hS)); refine jt ⟨?_⟩
    refine Cl.mono (RIntE_spec (t := t2) (hS.part (L := [(rb, rdC' t2)])) (by omega)) ?_
    rintro _ w6 ⟨rfl, hS'⟩
    have hS := hS.call (L := [(rb, rdC' t2)]) hS'
    have he1 := intO_e t2
    have hl1 := intO_len t2
    generalize intO t2 = y at hS he1 hl1 hM ⊢
    obtain ⟨z1, e1, t3⟩ := y
    simp only at hS he1 hl1 hM ⊢
    (repeat (refine jt ⟨?_⟩; refine hS.st rfl rfl ?_; intro _ hS)); refine jt ⟨?_⟩
    refine Cl.mono (RIntE_spec (t := t3) (hS.part (L := [(rb, rdC' t3)])) (by omega)) ?_
    rintro _ w7 ⟨rfl, hS'⟩
    have hS := hS.call (L := [(rb, rdC' t3)]) hS'
    have he2 := intO_e t3
    have hl2 := intO_len t3
    generalize intO t3 = y at hS he2 hl2 hM ⊢
    obtain ⟨z2, e2, t4⟩ := y
    simp only at hS he2 hl2 hM ⊢
    (repeat (refine jt ⟨?_⟩; refine hS.st rfl rfl ?_; intro _ hS)); refine jt ⟨?_⟩
    refine Cl.mono (RIntE_spec (t := t4) (hS.part (L := [(rb, rdC' t4)])) (by omega)) ?_
    rintro _ w8 ⟨rfl, hS'⟩
    have hS := hS.call (L := [(rb, rdC' t4)]) hS'
    have he3 := intO_e t4
    have hl3 := intO_len t4
    generalize intO t4 = y at hS he3 hl3 hM ⊢
    obtain ⟨z3, e3, t5⟩ := y
    simp only at hS he3 hl3 hM ⊢
    (repeat (refine jt ⟨?_⟩; refine hS.st rfl rfl ?_; intro _ hS)); refine jt ⟨?_⟩
    refine Cl.mono (RNumE_spec (t := t5) (hS.part (L := [(rb, rdC' t5)])) (by omega)) ?_
    rintro _ w9 ⟨rfl, hS'⟩
    have hS := hS.call (L := [(rb, rdC' t5)]) hS'
    have he4 := numO_e t5
    have hl4 := numO_len t5
    have hl4' := numO_lt t5
    generalize numO t5 = y at hS he4 hl4 hl4' hM ⊢
    obtain ⟨m, e4, t6⟩ := y
    simp only at hS he4 hl4 hl4' hM ⊢
    (repeat (refine jt ⟨?_⟩; refine hS.st rfl rfl ?_; intro _ hS)); refine jt ⟨?_⟩
    refine Cl.mono (RTextE_spec (t := t6) (hS.part (L := [(rb, rdC' t6)])) (by omega)) ?_
    rintro _ w10 ⟨rfl, hS'⟩
    have hS := hS.call (L := [(rb, rdC' t6)]) hS'
    have he5 := textO_err t6
    have hl5 := textO_len t6
    generalize textO t6 = y at hS he5 hl5 hM ⊢
    obtain ⟨x, e5, t7⟩ := y
    simp only at hS he5 hl5 hM ⊢
    (repeat (refine jt ⟨?_⟩; refine hS.st rfl rfl ?_; intro _ hS)); refine jt ⟨?_⟩
    refine hS.al ?_
    intro r w11 _ hS
    (repeat (refine jt ⟨?_⟩; refine hS.st rfl rfl ?_; intro _ hS)); refine jt ⟨?_⟩
    have hbe := eN_five e1 e2 e3 e4 e5 he1 he2 he3 he4 he5
    rw [hbe]
    rw [hM] at hd hx
    generalize (((((false || decide (e1 ≠ 0)) || decide (e2 ≠ 0)) || decide (e3 ≠ 0)) || decide (e4 ≠ 0)) || decide (e5 ≠ 0)) = b7 at hd hx ⊢
    have hmb : decide ((m : Int) = 1) = decide (m = 1) := by rw [decide_eq_decide]; omega
    rw [hmb] at hS
    have hS : St w [rb] ((r, .cells ⟨rowC ⟨z1, z2, z3, decide (m = 1), x⟩⟩ T_api_Row (0, 0)) :: (rb, rdC' t7) :: L) _ := hS
    generalize (⟨z1, z2, z3, decide (m = 1), x⟩ : RowM) = row at hS hd hx
    simp only at hd hx
    refine St.app (sz := 5) (m := 1) tblOk rfl rfl rfl rfl hS hv (news := rowC row) rfl (by have := hS.arr (b := r) (T' := []) (by simp); exact this) rfl (by show (_ + _) * 48 ≤ _; omega) (by omega) ?_
    intro a2 c2 L2 w12 hv hS
    have e9 : l.flatMap rowC ++ rowC row = (l ++ [row]).flatMap rowC := by simp
    have e8 : l.length + 1 = (l ++ [row]).length := by simp
    rw [e9, e8] at hv
    rw [e8]
    (repeat (refine jt ⟨?_⟩; refine hS.st rfl rfl ?_; intro _ hS)); refine jt ⟨?_⟩
    refine ⟨⟨i + 1, ⟨t7, b7⟩, l ++ [row], a2, c2⟩, ⟨rfl, rfl, rfl, rfl, rfl, trivial⟩, ⟨⟨by simp only; omega, hx, by simp only; omega, by simp only [List.length_append, List.length_singleton]; omega⟩, L2, hv, hS.sub (List.sublist_cons_self _ _)⟩, by simp only; omega⟩
  · rcases hend with rfl | rfl
    · (repeat (refine jt ⟨?_⟩; refine hS.st rfl rfl ?_; intro _ hS)); refine jt ⟨?_⟩
      exact ⟨a, c, L, by rw [← hX2], by rw [← hX2]; exact hv, by rw [← hX2]; exact hS⟩
    · by_cases hin : i < n
      · (repeat (refine jt ⟨?_⟩; refine hS.st rfl rfl ?_; intro _ hS)); refine jt ⟨?_⟩
        exact ⟨a, c, L, by rw [← hX2], by rw [← hX2]; exact hv, by rw [← hX2]; exact hS⟩
      · (repeat (refine jt ⟨?_⟩; refine hS.st rfl rfl ?_; intro _ hS)); refine jt ⟨?_⟩
        exact ⟨a, c, L, by rw [← hX2], by rw [← hX2]; exact hv, by rw [← hX2]; exact hS⟩
set_option maxHeartbeats 1000000 in
theorem R13Parse_spec {w : World} {s : Bytes} (hs : s.length ≤ 70368744177664) (hE : ErrVars w) :
    Cl Tryz.prog f_tarmacref13_Parse [Str s] w fun v w' => v = .tuple ⟨[seatAt (parseO s).1 (parseO s).2.1, .bool (parseO s).2.2]⟩ ∧ St w [] [] w' := by
  have hS := St.start w
  refine en_tarmacref13_Parse rfl ?_
  unfold seatAt parseO
  by_cases h2 : s.length < 2
  · have hp : parseB s = none := by
      match s, h2 with
      | [], _ => rfl
      | [c], _ => rfl
    rw [hp]
    refine jq ⟨?_⟩
    refine hS.al ?_
    intro b w1 _ hS
    (repeat (refine jt ⟨?_⟩; refine hS.st rfl rfl ?_; intro _ hS)); refine jt ⟨?_⟩
    exact ⟨rfl, hS.nil⟩
  · rcases List.eq_nil_or_concat s with rfl | ⟨s', c, rfl⟩
    · exact absurd (by show 0 < 2; omega) h2
    rw [List.concat_eq_append] at *
    have hsl : (s' ++ [c]).length = s'.length + 1 := by simp
    have htk : (s' ++ [c]).take s'.length = s' := by simp
    have hgl : (s' ++ [c]).getLast? = some c := by simp
    have hdl : (s' ++ [c]).dropLast = s' := by simp
    have hcc : (s' ++ [c]).getD s'.length 0 = c := by simp
    obtain ⟨s, hse⟩ : ∃ s, s = s' ++ [c] := ⟨_, rfl⟩
    rw [← hse] at hs hsl htk hgl hdl hcc h2 ⊢
    have hcl := c.toNat_lt
    have e1 : ((s.length : Int) - 1).toNat = s'.length := by omega
    refine jq ⟨?_⟩
    refine hS.al ?_
    intro b w1 _ hS
    have hE1 := hE.keep hS (by simp) (by simp)
    (repeat (refine jt ⟨?_⟩; refine hS.st rfl rfl ?_; intro _ hS)); refine jt ⟨?_⟩
    rw [e1, htk]
    refine Cl.mono (Atoi_spec (s := s') (by omega) hE1) ?_
    rintro _ w2 ⟨hS', n, ev, rfl, hev⟩
    have hS := hS.call0 hS'
    have hpb : parseB s = if labelB n c.toNat = s then some (n, c.toNat) else none := by
      have hpb : parseB s = match Lib.atoiAll s' with
          | .ok n => if labelB n c.toNat = s then some (n, c.toNat) else none
          | _ => none := by unfold parseB; rw [hgl]; simp only; rw [hdl]; rfl
      rcases hev with ⟨ha, -⟩ | ⟨ha, hn, -⟩
      · rw [hpb, ha]
      · have hl : labelB n c.toNat = [45] := (labelB_dash _ _).2 (by
          cases h : seatOk n c.toNat with
          | false => rfl
          | true => have := seatOk_iff.1 h; omega)
        have hne : ¬ labelB n c.toNat = s := by
          rw [hl]; intro h
          have := congrArg List.length h
          simp at this; omega
        rw [hpb, if_neg hne]
        cases h : Lib.atoiAll s'
        · exact absurd h (ha _)
        · rfl
        · rfl
    clear hev
    by_cases hlab : labelB n c.toNat = s
    · rw [if_pos hlab] at hpb
      rw [hpb]
      (repeat (refine jt ⟨?_⟩; refine hS.st rfl rfl ?_; intro _ hS)); refine jt ⟨?_⟩
      rw [e1, hcc]
      (repeat (refine jt ⟨?_⟩; refine hS.st rfl rfl ?_; intro _ hS)); refine jt ⟨?_⟩
      refine hS.al ?_
      intro b2 w3 _ hS
      (repeat (refine jt ⟨?_⟩; refine hS.st rfl rfl ?_; intro _ hS)); refine jt ⟨?_⟩
      refine Cl.mono (R13Label_spec n c.toNat hcl) ?_
      rintro _ w4 ⟨rfl, hS'⟩
      have hS := hS.call0 hS'
      rw [hlab]
      (repeat (refine jt ⟨?_⟩; refine hS.st rfl rfl ?_; intro _ hS)); refine jt ⟨?_⟩
      exact ⟨rfl, hS.nil⟩
    · rw [if_neg hlab] at hpb
      rw [hpb]
      (repeat (refine jt ⟨?_⟩; refine hS.st rfl rfl ?_; intro _ hS)); refine jt ⟨?_⟩
      rw [e1, hcc]
      (repeat (refine jt ⟨?_⟩; refine hS.st rfl rfl ?_; intro _ hS)); refine jt ⟨?_⟩
      refine hS.al ?_
      intro b2 w3 _ hS
      (repeat (refine jt ⟨?_⟩; refine hS.st rfl rfl ?_; intro _ hS)); refine jt ⟨?_⟩
      refine Cl.mono (R13Label_spec n c.toNat hcl) ?_
      rintro _ w4 ⟨rfl, hS'⟩
      have hS := hS.call0 hS'
      (repeat (refine jt ⟨?_⟩; refine hS.st rfl rfl ?_; intro _ hS)); refine jt ⟨?_⟩
      exact ⟨rfl, hS.nil⟩
theorem max36 (e1 e2 : Int) (h1 : e1 = 0 ∨ e1 = 1) (h2 : e2 = 0 ∨ e2 = 1) (b : Bool) : mxI (mxI 36 e1) e2 = 0 ↔ (b || true) = false := by
  unfold mxI
  rcases h1 with rfl | rfl <;> rcases h2 with rfl | rfl <;> simp
theorem maxbb (e1 e2 : Int) (h1 : e1 = 0 ∨ e1 = 1) (h2 : e2 = 0 ∨ e2 = 1) (b : Bool) : mxI (mxI (eN b) e1) e2 = 0 ↔ ((b || decide (e1 ≠ 0) || decide (e2 ≠ 0)) || false) = false := by
  unfold mxI eN
  rcases h1 with rfl | rfl <;> rcases h2 with rfl | rfl <;> cases b <;> simp
def PaxPost (y : PaxM × RB) (rb : Nat) (v : Value) (w w' : World) : Prop := ∃ e : Int, v = .tuple ⟨[.agg ⟨paxC y.1⟩, .int .i64 e]⟩ ∧ (e = 0 ↔ y.2.bad = false) ∧ St w [rb] [(rb, rdC' y.2.t)] w'
set_option maxRecDepth 4000 in
set_option maxHeartbeats 8000000 in
theorem ReadPax_spec {w : World} {rb : Nat} {t : Bytes} (hh : Holds [(rb, rdC' t)] w) (ht : t.length ≤ 70368744177664) (hE : ErrVars w) :
    Cl Tryz.prog f_tarmacref22_ReadPax [ptr rb] w fun v w' => PaxPost (lPax t 0) rb v w w' := by
  have hS : St w [rb] [(rb, rdC' t)] w := St.enter hh
  refine en_tarmacref22_ReadPax rfl ?_
  (repeat (refine jt ⟨?_⟩; refine hS.st rfl rfl ?_; intro _ hS)); refine jt ⟨?_⟩
  refine hS.al ?_
  intro b2 w1 _ hS
  (repeat (refine jt ⟨?_⟩; refine hS.st rfl rfl ?_; intro _ hS)); refine jt ⟨?_⟩
  refine hS.al ?_
  intro b4 w2 _ hS
  (repeat (refine jt ⟨?_⟩; refine hS.st rfl rfl ?_; intro _ hS)); refine jt ⟨?_⟩
  refine SemW.loop (fun x : LI => [(0, ptr rb), (2, ptr b2), (3, .int .i64 0), (4, ptr b4), (5, .int .i64 (eN x.s.bad)), (16, .int .i64 x.k)])
    (fun x w' => ((x.l.length = x.k ∧ x.l.length ≤ 6) ∧ (x.l ++ (wInts (6 - x.l.length) x.s).1, (wInts (6 - x.l.length) x.s).2) = wInts 6 ⟨t, false⟩ ∧ x.s.t.length ≤ t.length) ∧ St w [rb] ((rb, rdC' x.s.t) :: (b4, .cells ⟨x.l.map intV ++ List.replicate (6 - x.l.length) (intV 0)⟩ T_6_int (0, 0)) :: [(b2, .cells ⟨paxC ⟨0, 0, 0, false, false, false, false, 0, 0, 0, 0, 0, 0⟩⟩ T_api_Pax (0, 0))]) w') (fun x => 6 - x.k) ⟨0, [], ⟨t, false⟩⟩
    ⟨rfl, rfl, rfl, rfl, rfl, rfl, trivial⟩ ⟨⟨⟨rfl, Nat.zero_le _⟩, rfl, Nat.le_refl _⟩, ?_⟩ ?_
  · have hS : St w [rb] ([(b4, _), (b2, _)] ++ [(rb, _)]) _ := hS
    exact hS.perm List.perm_append_comm
  clear hS
  rintro ⟨k, l, s⟩ w3 ⟨⟨⟨hlk, hl6⟩, hx, hst⟩, hS⟩
  simp only at hlk hl6 hx hst hS ⊢
  by_cases hl : l.length < 6
  · have hx2 := wInts_step hl hx
    have hst2 := rbInt_t s
    have hset := set_row l (rbInt s).1 6 hl
    have he := intO_e s.t
    (repeat (refine jt ⟨?_⟩; refine hS.st rfl rfl ?_; intro _ hS)); refine jt ⟨?_⟩
    refine Cl.mono (RIntE_spec (t := s.t) (hS.part (L := [(rb, rdC' s.t)])) (by omega)) ?_
    rintro _ w4 ⟨rfl, hS'⟩
    have hS := hS.call (L := [(rb, rdC' s.t)]) hS'
    (repeat (refine jt ⟨?_⟩; refine hS.st rfl rfl ?_; intro _ hS)); refine jt ⟨?_⟩
    refine hS.stI rfl (by simp; omega) ?_
    intro _ hS
    rw [show 0 + (k : Int).toNat * 1 = l.length by simp [hlk]] at hS
    (repeat (refine jt ⟨?_⟩; refine hS.st rfl rfl ?_; intro _ hS)); refine jt ⟨?_⟩
    rw [eN_max' s.bad _ he]
    refine ⟨⟨k + 1, l ++ [(rbInt s).1], (rbInt s).2⟩, ⟨rfl, rfl, rfl, rfl, rfl, rfl, trivial⟩, ⟨⟨⟨by simp [hlk], by simp; omega⟩, hx2, by simp only; omega⟩, ?_⟩, by simp only; omega⟩
    rw [← hset]
    exact hS
  · have hl6' : l.length = 6 := by omega
    rw [hl6'] at hx
    have hx : (l, s) = wInts 6 ⟨t, false⟩ := by simpa [wInts] using hx
    obtain ⟨i0, i1, i2, i3, i4, i5, rfl⟩ := lst6' hl6'
    have hn := rbNum_t s
    have hne := numO_e s.t
    (repeat (refine jt ⟨?_⟩; refine hS.st rfl rfl ?_; intro _ hS)); refine jt ⟨?_⟩
    refine Cl.mono (RNumE_spec (t := s.t) (hS.part (L := [(rb, rdC' s.t)])) (by omega)) ?_
    rintro _ w4 ⟨rfl, hS'⟩
    have hS := hS.call (L := [(rb, rdC' s.t)]) hS'
    (repeat (refine jt ⟨?_⟩; refine hS.st rfl rfl ?_; intro _ hS)); refine jt ⟨?_⟩
    have hn : (numO s.t).2.2.length ≤ s.t.length := hn
    refine Cl.mono (RTextE_spec (t := (numO s.t).2.2) (hS.part (L := [(rb, rdC' (numO s.t).2.2)])) (by omega)) ?_
    rintro _ w5 ⟨rfl, hS'⟩
    have hS := hS.call (L := [(rb, rdC' (numO s.t).2.2)]) hS'
    (repeat (refine jt ⟨?_⟩; refine hS.st rfl rfl ?_; intro _ hS)); refine jt ⟨?_⟩
    have htx := textO_len (numO s.t).2.2
    have hte := textO_err (numO s.t).2.2
    have hlt := numO_lt s.t
    have hap := hE.apart (b := rb) (x := Str t) (l := []) (t := T_tarmacref01_Reader) (fz := (0, 0)) (hh.own (rb, _) (by simp)) (fun _ _ => nofun)
    refine Cl.mono (R13Parse_spec (s := (textO (numO s.t).2.2).1) (by omega) (hE.keep hS (by simp; exact fun h => hap.1 h.symm) (by simp; exact fun h => hap.2 h.symm))) ?_
    rintro _ w6 ⟨rfl, hS'⟩
    have hS := hS.call0 hS'
    have hLP : lPax t 0 = (⟨0, i0, i1, (bitsN 4 (numO s.t).1).getD 0 false, (bitsN 4 (numO s.t).1).getD 1 false, (bitsN 4 (numO s.t).1).getD 2 false, (bitsN 4 (numO s.t).1).getD 3 false, i2, i3, i4, i5, (parseO (textO (numO s.t).2.2).1).1, (parseO (textO (numO s.t).2.2).1).2.1⟩,
        ⟨(textO (numO s.t).2.2).2.2, (s.bad || decide ((numO s.t).2.1 ≠ 0) || decide ((textO (numO s.t).2.2).2.1 ≠ 0)) || (!(parseO (textO (numO s.t).2.2).1).2.2 && decide ((textO (numO s.t).2.2).1 ≠ []))⟩) := by
      unfold lPax tk
      rw [← hx]
      rfl
    rw [hLP, bits4']
    clear hLP
    generalize numO s.t = y at *
    obtain ⟨n, e1, t1⟩ := y
    simp only at *
    generalize textO t1 = z at *
    obtain ⟨x, e2, t2⟩ := z
    simp only at *
    generalize parseO x = q at *
    obtain ⟨pn, pc, ok⟩ := q
    simp only at *
    unfold seatAt
    have d2 : ((n : Int)).tdiv 2 = ((n / 2 : Nat) : Int) := tdivN n 2
    have d4 : ((n : Int)).tdiv 4 = ((n / 4 : Nat) : Int) := tdivN n 4
    have d8 : ((n : Int)).tdiv 8 = ((n / 8 : Nat) : Int) := tdivN n 8
    (repeat (refine jt ⟨?_⟩; refine hS.st rfl rfl ?_; intro _ hS)); refine jt ⟨?_⟩
    refine hS.al ?_
    intro b13 w7 _ hS
    have hS : St w [rb] ((b13, _) :: (rb, _) :: (b4, .cells ⟨[.int .i64 i0, .int .i64 i1, .int .i64 i2, .int .i64 i3, .int .i64 i4, .int .i64 i5]⟩ T_6_int (0, 0)) :: [(b2, _)]) _ := hS
    by_cases hok : ok = true
    · subst hok
      (repeat (refine jt ⟨?_⟩; refine hS.st rfl rfl ?_; intro _ hS)); refine jt ⟨?_⟩
      rw [d4]
      (repeat (refine jt ⟨?_⟩; refine hS.st rfl rfl ?_; intro _ hS)); refine jt ⟨?_⟩
      rw [d8]
      (repeat (refine jt ⟨?_⟩; refine hS.st rfl rfl ?_; intro _ hS)); refine jt ⟨?_⟩
      refine hS.al ?_
      intro b15 w8 _ hS
      (repeat (refine jt ⟨?_⟩; refine hS.st rfl rfl ?_; intro _ hS)); refine jt ⟨?_⟩
      exact ⟨_, rfl, maxbb e1 e2 hne hte s.bad, hS.sub (List.Sublist.cons _ (List.Sublist.cons _ (List.Sublist.cons_cons _ (List.nil_sublist _))))⟩
    · have hok := Bool.eq_false_iff.2 hok
      subst hok
      by_cases hx0 : x = []
      · subst hx0
        (repeat (refine jt ⟨?_⟩; refine hS.st rfl rfl ?_; intro _ hS)); refine jt ⟨?_⟩
        rw [d4]
        (repeat (refine jt ⟨?_⟩; refine hS.st rfl rfl ?_; intro _ hS)); refine jt ⟨?_⟩
        rw [d8]
        (repeat (refine jt ⟨?_⟩; refine hS.st rfl rfl ?_; intro _ hS)); refine jt ⟨?_⟩
        refine hS.al ?_
        intro b15 w8 _ hS
        (repeat (refine jt ⟨?_⟩; refine hS.st rfl rfl ?_; intro _ hS)); refine jt ⟨?_⟩
        exact ⟨_, rfl, maxbb e1 e2 hne hte s.bad, hS.sub (List.Sublist.cons _ (List.Sublist.cons _ (List.Sublist.cons_cons _ (List.nil_sublist _))))⟩
      · rw [decide_eq_true hx0]
        (repeat (refine jt ⟨?_⟩; refine hS.st rfl rfl ?_; intro _ hS)); refine jt ⟨?_⟩
        rw [d4]
        (repeat (refine jt ⟨?_⟩; refine hS.st rfl rfl ?_; intro _ hS)); refine jt ⟨?_⟩
        rw [d8]
        (repeat (refine jt ⟨?_⟩; refine hS.st rfl rfl ?_; intro _ hS)); refine jt ⟨?_⟩
        refine hS.al ?_
        intro b15 w8 _ hS
        (repeat (refine jt ⟨?_⟩; refine hS.st rfl rfl ?_; intro _ hS)); refine jt ⟨?_⟩
        exact ⟨_, rfl, max36 e1 e2 hne hte _, hS.sub (List.Sublist.cons _ (List.Sublist.cons _ (List.Sublist.cons_cons _ (List.nil_sublist _))))⟩
end Go.Proofs.YtinkmidjbdnibaaGreatDoor
namespace Go.Proofs.YtinkmidjbdnibaaGreatDoor
open Go Go.Eng Go.Proofs Go.Srt
theorem lPax_id (t : Bytes) (id : Int) : lPax t id = ({ (lPax t 0).1 with id := id }, (lPax t 0).2) := by unfold lPax tk; rfl
theorem eN_zero (b : Bool) : eN b = 0 ↔ b = false := by cases b <;> simp [eN]
def OnePost (o : OpM) (s : StateM) (sb : Nat) (T : List Nat) (v : Value) (w w' : World) : Prop :=
  (v = .int .i64 0 ∧ ∃ R, LooseR o R ∧ ∃ a b c ca cb cc La Lr Lb Lc, StOwn (addR s R) a b c ca cb cc La Lr Lb Lc ∧ St w T (stH sb (addR s R) a b c ca cb cc La Lr Lb Lc) w') ∨
  (∃ e : Int, v = .int .i64 e ∧ ¬ e = 0 ∧ (∀ R, recOk R → rop (recR R) ≠ o) ∧ St w T [] w')
structure OFI where
  k : Nat
  l : List Int
  s : RB
set_option maxRecDepth 4000 in
set_option maxHeartbeats 8000000 in
theorem one22_spec {w : World} {sb : Nat} {s : StateM} {a b c : Option Addr} {ca cb cc : Nat} {La Lr Lb Lc : Heap} {o : OpM} (hO : StOwn s a b c ca cb cc La Lr Lb Lc) (hh : Holds (stH sb s a b c ca cb cc La Lr Lb Lc) w) (hk : o.1.length ≤ 1048576) (hv : o.2.2.length ≤ 100000000) (hn : s.eqs.length + s.fls.length + s.pxs.length ≤ 1048576) (hE : ErrVars w) (hT : errG0 ∉ keys (stH sb s a b c ca cb cc La Lr Lb Lc) ∧ errG1 ∉ keys (stH sb s a b c ca cb cc La Lr Lb Lc)) :
    Cl Tryz.prog f_tarmacref22_one [ptr sb, .agg ⟨opDC o⟩] w fun v w' => OnePost o s sb (keys (stH sb s a b c ca cb cc La Lr Lb Lc)) v w w' := by
  have hS := St.enter hh
  generalize keys (stH sb s a b c ca cb cc La Lr Lb Lc) = T0 at hS hT ⊢
  obtain ⟨k, d, v⟩ := o
  simp only at hk hv
  unfold opDC
  refine en_tarmacref22_one rfl ?_
  refine jq ⟨?_⟩
  refine hS.al ?_
  intro b3 w1 _ hS
  (repeat (refine jt ⟨?_⟩; refine hS.st rfl rfl ?_; intro _ hS)); refine jt ⟨?_⟩
  refine Cl.mono (Split03_spec hk) ?_
  rintro _ w2 (⟨ps, ap, cp, Lp, rfl, hsp, hvp, hS'⟩ | ⟨rfl, hno, hS'⟩)
  rotate_left
  · have hS := hS.call0 hS'
    (repeat (refine jt ⟨?_⟩; refine hS.st rfl rfl ?_; intro _ hS)); refine jt ⟨?_⟩
    exact .inr ⟨_, rfl, by decide, noRec_key fun qs hq => absurd hq (hno qs), hS.nil⟩
  have hS := hS.callNew hS'
  by_cases hl : ps.length = 2
  rotate_left
  · (repeat (refine jt ⟨?_⟩; refine hS.st rfl rfl ?_; intro _ hS)); refine jt ⟨?_⟩
    exact .inr ⟨_, rfl, by decide, noRec_key (noKey hsp (by intro c n e; rw [e] at hl; exact hl rfl)), hS.nil⟩
  obtain ⟨p, q, rfl⟩ : ∃ p q, ps = [p, q] := by
    match ps, hl with
    | [p, q], _ => exact ⟨p, q, rfl⟩
  rcases hvp.inv with ⟨-, h0, -⟩ | ⟨g, l', rfl, hxx, hl', hnc, rfl⟩
  · cases h0
  have ecells : [p, q].flatMap partC ++ l' = .int .i64 (partK p) :: .int .i64 (partN p) :: Str (partT p) :: .int .i64 (partK q) :: .int .i64 (partN q) :: Str (partT q) :: l' := by
    simp [partC_eq]
  have hS : St w T0 ((g, .cells ⟨.int .i64 (partK p) :: .int .i64 (partN p) :: Str (partT p) :: .int .i64 (partK q) :: .int .i64 (partN q) :: Str (partT q) :: l'⟩ T_api_Part (0, 0)) :: (b3, .cells ⟨[Str k, .bool d, Str v]⟩ T_api_Op (0, 0)) :: stH sb s a b c ca cb cc La Lr Lb Lc) w2 := by
    rw [← ecells]; exact hS
  have hkey : ∀ ch : UInt8, ¬ ch = 0 → partT p = [ch] → KeyIs (k, d, v) ch (partN q) := by
    intro ch hc ht
    cases p with
    | num n => cases ht
    | text t =>
      have ht : t = [ch] := ht
      subst ht
      exact keyIs_of hc hsp
  have hnone : (∀ ch : UInt8, (ch = 101 ∨ ch = 102 ∨ ch = 112) → ¬ partT p = [ch]) → ∀ R, recOk R → rop (recR R) ≠ (k, d, v) := by
    intro hx
    refine noRec_key fun qs hqs c' n' hc he => ?_
    subst he
    have e := spl_inj hqs hsp
    simp only [List.cons.injEq] at e
    exact hx c' hc (by rw [← e.1]; rfl)
  generalize partT p = t at hS hkey hnone
  generalize partN q = n at hS hkey
  generalize partK q = qk at hS
  generalize partT q = qt at hS
  generalize partK p = pk at hS
  generalize partN p = pn at hS
  clear ecells hsp hvp hxx
  (repeat (refine jt ⟨?_⟩; refine hS.st rfl rfl ?_; intro _ hS)); refine jt ⟨?_⟩
  refine hS.al ?_
  intro rb w3 _ hS
  have hS : St w T0 ((rb, rdC' v) :: (g, .cells ⟨.int .i64 pk :: .int .i64 pn :: Str t :: .int .i64 qk :: .int .i64 n :: Str qt :: l'⟩ T_api_Part (0, 0)) :: (b3, .cells ⟨[Str k, .bool d, Str v]⟩ T_api_Op (0, 0)) :: stH sb s a b c ca cb cc La Lr Lb Lc) w3 := hS
  (repeat (refine jt ⟨?_⟩; refine hS.st rfl rfl ?_; intro _ hS)); refine jt ⟨?_⟩
  generalize (g, Obj.cells ⟨.int .i64 pk :: .int .i64 pn :: Str t :: .int .i64 qk :: .int .i64 n :: Str qt :: l'⟩ T_api_Part (0, 0)) = X1 at hS
  generalize (b3, Obj.cells ⟨[Str k, .bool d, Str v]⟩ T_api_Op (0, 0)) = X2 at hS
  by_cases h1 : t = [101]
  · have hki := hkey 101 (by decide) h1
    obtain ⟨xs, hva, hin⟩ := hO.eqs
    (repeat (refine jt ⟨?_⟩; refine hS.st rfl rfl ?_; intro _ hS)); refine jt ⟨?_⟩
    refine Cl.mono (ReadRows22_spec (t := v) (hS.part (L := [(rb, rdC' v)])) (by omega)) ?_
    rintro _ w4 ⟨a5, c5, L5, rfl, hv5, hS'⟩
    have hS := hS.call (L := [(rb, rdC' v)]) hS'
    have hlo := loose_eq hv hki
    have hnl := noLoose_eq hki
    have hbad : ∀ b, eN b = 0 ↔ b = false := eN_zero
    generalize lRowsT v = y at hS hv5 hlo hnl
    obtain ⟨⟨t5, bd⟩, rws⟩ := y
    simp only at hS hv5 hlo hnl ⊢
    (repeat (refine jt ⟨?_⟩; refine hS.st rfl rfl ?_; intro _ hS)); refine jt ⟨?_⟩
    refine hS.al ?_
    intro r w6 _ hS
    (repeat (refine jt ⟨?_⟩; refine hS.st rfl rfl ?_; intro _ hS)); refine jt ⟨?_⟩
    have hS : St w T0 ((r, .cells ⟨[.int .i64 n, .slice a5 rws.length c5]⟩ T_api_Equip (0, 0)) :: ([(rb, rdC' t5)] ++ (L5 ++ (X1 :: X2 :: stH sb s a b c ca cb cc La Lr Lb Lc)))) _ := hS
    refine St.app (sz := 2) (m := 1) tblOk rfl rfl rfl rfl hS hva (news := [.int .i64 n, .slice a5 rws.length c5]) rfl (by have := hS.arr (b := r) (T' := []) (by simp); exact this) rfl (by show (_ + _) * 32 ≤ _; omega) (by omega) ?_
    intro a6 c6 L6 w7 hva hS
    have e8 : s.eqs.length + 1 = (s.eqs ++ [(⟨n, rws⟩ : EquipM)]).length := by simp
    rw [e8] at hva ⊢
    (repeat (refine jt ⟨?_⟩; refine hS.st rfl rfl ?_; intro _ hS)); refine jt ⟨?_⟩
    have hO2 : StOwn (addR s (.eq ⟨n, rws⟩)) a6 b c c6 cb cc L6 (L5 ++ Lr) Lb Lc := ⟨⟨_, hva, EqsIn.snoc (e := ⟨n, rws⟩) hin hv5⟩, hO.fls, hO.pxs⟩
    cases bd with
    | true => exact .inr ⟨_, rfl, by decide, hnl rfl, hS.nil⟩
    | false =>
      have hS := hS.sub (subRA (L := L5) (x := (r, _)) (A := [(rb, rdC' t5)]) (X1 := X1) (X2 := X2))
      exact .inl ⟨rfl, _, hlo, _, _, _, _, _, _, _, _, _, _, hO2, hS.perm (heap_mv _ _ _ _ _)⟩
  by_cases h2 : t = [102]
  · have hki := hkey 102 (by decide) h2
    (repeat (refine jt ⟨?_⟩; refine hS.st rfl rfl ?_; intro _ hS)); refine jt ⟨?_⟩
    refine hS.al ?_
    intro b11 w4 _ hS
    (repeat (refine jt ⟨?_⟩; refine hS.st rfl rfl ?_; intro _ hS)); refine jt ⟨?_⟩
    refine SemW.loop (fun x : OFI => [(0, ptr sb), (7, .int .i64 n), (8, ptr rb), (11, ptr b11), (12, .int .i64 (eN x.s.bad)), (65, .int .i64 x.k)])
      (fun x w' => ((x.l.length = x.k ∧ x.l.length ≤ 7) ∧ (x.l ++ (wInts (7 - x.l.length) x.s).1, (wInts (7 - x.l.length) x.s).2) = wInts 7 ⟨v, false⟩ ∧ x.s.t.length ≤ v.length) ∧ St w T0 ((rb, rdC' x.s.t) :: (b11, .cells ⟨x.l.map intV ++ List.replicate (7 - x.l.length) (intV 0)⟩ T_7_int (0, 0)) :: X1 :: X2 :: stH sb s a b c ca cb cc La Lr Lb Lc) w') (fun x => 7 - x.k) ⟨0, [], ⟨v, false⟩⟩
      ⟨rfl, rfl, rfl, rfl, rfl, rfl, trivial⟩ ⟨⟨⟨rfl, Nat.zero_le _⟩, rfl, Nat.le_refl _⟩, ?_⟩ ?_
    · exact hS.perm (List.Perm.swap _ _ _)
    clear hS
    rintro ⟨j, l, z⟩ w5 ⟨⟨⟨hlk, hl6⟩, hx, hst⟩, hS⟩
    simp only at hlk hl6 hx hst hS ⊢
    by_cases hl : l.length < 7
    · have hx2 := wInts_step hl hx
      have hst2 := rbInt_t z
      have hset := set_row l (rbInt z).1 7 hl
      have he := intO_e z.t
      (repeat (refine jt ⟨?_⟩; refine hS.st rfl rfl ?_; intro _ hS)); refine jt ⟨?_⟩
      refine Cl.mono (RIntE_spec (t := z.t) (hS.part (L := [(rb, rdC' z.t)])) (by omega)) ?_
      rintro _ w6 ⟨rfl, hS'⟩
      have hS := hS.call (L := [(rb, rdC' z.t)]) hS'
      (repeat (refine jt ⟨?_⟩; refine hS.st rfl rfl ?_; intro _ hS)); refine jt ⟨?_⟩
      refine hS.stI rfl (by simp; omega) ?_
      intro _ hS
      rw [show 0 + (j : Int).toNat * 1 = l.length by simp [hlk]] at hS
      (repeat (refine jt ⟨?_⟩; refine hS.st rfl rfl ?_; intro _ hS)); refine jt ⟨?_⟩
      rw [eN_max' z.bad _ he]
      refine ⟨⟨j + 1, l ++ [(rbInt z).1], (rbInt z).2⟩, ⟨rfl, rfl, rfl, rfl, rfl, rfl, trivial⟩, ⟨⟨⟨by simp [hlk], by simp; omega⟩, hx2, by simp only; omega⟩, ?_⟩, by simp only; omega⟩
      rw [← hset]
      exact hS
    · have hl7 : l.length = 7 := by omega
      rw [hl7] at hx
      have hx : (l, z) = wInts 7 ⟨v, false⟩ := by simpa [wInts] using hx
      have hlo := loose_fl hki
      have hnl := noLoose_fl hki
      rw [← hx] at hlo hnl
      obtain ⟨i0, i1, i2, i3, i4, i5, i6, rfl⟩ : ∃ i0 i1 i2 i3 i4 i5 i6, l = [i0, i1, i2, i3, i4, i5, i6] := by
        match l, hl7 with
        | [_, _, _, _, _, _, _], _ => exact ⟨_, _, _, _, _, _, _, rfl⟩
      simp only at hlo hnl
      have hS : St w T0 ((rb, rdC' z.t) :: (b11, .cells ⟨[intV i0, intV i1, intV i2, intV i3, intV i4, intV i5, intV i6]⟩ T_7_int (0, 0)) :: X1 :: X2 :: stH sb s a b c ca cb cc La Lr Lb Lc) w5 := hS
      (repeat (refine jt ⟨?_⟩; refine hS.st rfl rfl ?_; intro _ hS)); refine jt ⟨?_⟩
      have hlo : LooseR (k, d, v) (.fl ⟨n, i0, i1, i2, i3, i4, i5, i6⟩) := hlo
      refine SemW.draw tblOk mixed (fun w' => St w T0 [(b11, .cells ⟨[intV i0, intV i1, intV i2, intV i3, intV i4, intV i5, intV i6]⟩ T_7_int (0, 0)), (sb, .cells ⟨[.slice a s.eqs.length ca, .slice b s.fls.length cb, .slice c s.pxs.length cc]⟩ T_api_State (0, 0))] w') [26] [0, 1, 2, 3, 4, 5, 6, 7, 8, 9, 10, 11, 12, 13, 14, 15, 16, 17, 18, 19, 20, 21, 22, 23, 24, 25, 26] (by kernel_rfl) (hS.drew.sub (List.Sublist.cons _ (List.Sublist.cons_cons _ (List.Sublist.cons _ (List.Sublist.cons _ (List.Sublist.cons_cons _ (List.nil_sublist _))))))) ?_
      have hF := hS.drew
      have hS : St w T0 [(b11, .cells ⟨[intV i0, intV i1, intV i2, intV i3, intV i4, intV i5, intV i6]⟩ T_7_int (0, 0)), (sb, .cells ⟨[.slice a s.eqs.length ca, .slice b s.fls.length cb, .slice c s.pxs.length cc]⟩ T_api_State (0, 0))] _ := hF.sub (List.Sublist.cons _ (List.Sublist.cons_cons _ (List.Sublist.cons _ (List.Sublist.cons _ (List.Sublist.cons_cons _ (List.nil_sublist _))))))
      refine jr ⟨?_⟩
      refine hF.al ?_
      intro r w6 _ hF
      have hF : St w T0 ((r, .cells ⟨flC (⟨n, i0, i1, i2, i3, i4, i5, i6⟩ : FlightM)⟩ T_api_Flight (0, 0)) :: (rb, rdC' z.t) :: (b11, .cells ⟨[intV i0, intV i1, intV i2, intV i3, intV i4, intV i5, intV i6]⟩ T_7_int (0, 0)) :: X1 :: X2 :: stH sb s a b c ca cb cc La Lr Lb Lc) _ := hF
      refine Chk.mk (hF.sub (List.Sublist.cons _ (List.Sublist.cons _ (List.Sublist.cons_cons _ (List.Sublist.cons _ (List.Sublist.cons _ (List.Sublist.cons_cons _ (List.nil_sublist _)))))))) ?_
      refine jr ⟨?_⟩
      refine St.app (sz := 8) (m := 1) tblOk rfl rfl rfl rfl hF hO.fls (news := flC (⟨n, i0, i1, i2, i3, i4, i5, i6⟩ : FlightM)) rfl (by have := hF.arr (b := r) (T' := []) (by simp); exact this) rfl (by show (_ + _) * 64 ≤ _; omega) (by omega) ?_
      intro a6 c6 L6 w7 hv6 hF
      have e9 : s.fls.flatMap flC ++ flC (⟨n, i0, i1, i2, i3, i4, i5, i6⟩ : FlightM) = (s.fls ++ [(⟨n, i0, i1, i2, i3, i4, i5, i6⟩ : FlightM)]).flatMap flC := by simp
      have e8 : s.fls.length + 1 = (s.fls ++ [(⟨n, i0, i1, i2, i3, i4, i5, i6⟩ : FlightM)]).length := by simp
      rw [e9, e8] at hv6
      rw [e8]
      refine Chk.mk (hF.sub (List.Sublist.cons _ (List.Sublist.cons _ (List.Sublist.cons_cons _ (List.Sublist.cons _ (List.Sublist.cons _ (List.Sublist.cons_cons _ (List.nil_sublist _)))))))) ?_
      refine jr ⟨?_⟩
      refine hF.st rfl rfl ?_
      intro _ hS
      (repeat (refine jt ⟨?_⟩; refine hS.st rfl rfl ?_; intro _ hS)); refine jt ⟨?_⟩
      cases hzb : z.bad with
      | true => exact .inr ⟨_, rfl, by decide, hnl hzb, hS.nil⟩
      | false => exact .inl ⟨rfl, _, hlo, _, _, _, _, _, _, _, _, _, _, (⟨hO.eqs, hv6, hO.pxs⟩ : StOwn (addR s (.fl ⟨n, i0, i1, i2, i3, i4, i5, i6⟩)) a a6 c ca c6 cc La Lr L6 Lc), hS.sub (List.Sublist.cons _ (List.Sublist.cons _ (List.Sublist.cons _ (List.Sublist.cons _ (List.Sublist.cons _ (List.Sublist.refl _))))))⟩
  by_cases h3 : t = [112]
  · have hki := hkey 112 (by decide) h3
    (repeat (refine jt ⟨?_⟩; refine hS.st rfl rfl ?_; intro _ hS)); refine jt ⟨?_⟩
    refine Cl.mono (ReadPax_spec (t := v) (hS.part (L := [(rb, rdC' v)])) (by omega) (hE.keep hS hT.1 hT.2)) ?_
    rintro _ w4 ⟨e5, rfl, he5, hS'⟩
    have hS := hS.call (L := [(rb, rdC' v)]) hS'
    have hlo := loose_px hki
    have hnl := noLoose_px hki
    rw [lPax_id] at hlo hnl
    generalize lPax v 0 = y at hS he5 hlo hnl
    obtain ⟨x, t5, bd⟩ := y
    simp only at hS he5 hlo hnl ⊢
    (repeat (refine jt ⟨?_⟩; refine hS.st rfl rfl ?_; intro _ hS)); refine jt ⟨?_⟩
    refine hS.al ?_
    intro b16 w5 _ hS
    (repeat (refine jt ⟨?_⟩; refine hS.st rfl rfl ?_; intro _ hS)); refine jt ⟨?_⟩
    have hS : St w T0 ((b16, .cells ⟨paxC { x with id := n }⟩ T_api_Pax (0, 0)) :: (rb, rdC' t5) :: X1 :: X2 :: stH sb s a b c ca cb cc La Lr Lb Lc) _ := hS
    refine SemW.draw tblOk mixed (fun w' => St w T0 [(b16, .cells ⟨paxC { x with id := n }⟩ T_api_Pax (0, 0)), (sb, .cells ⟨[.slice a s.eqs.length ca, .slice b s.fls.length cb, .slice c s.pxs.length cc]⟩ T_api_State (0, 0))] w') [10] [0, 1, 2, 3, 4, 5, 6, 7, 8, 9, 10] (by kernel_rfl) (hS.drew.sub (List.Sublist.cons_cons _ (List.Sublist.cons _ (List.Sublist.cons _ (List.Sublist.cons _ (List.Sublist.cons_cons _ (List.nil_sublist _))))))) ?_
    have hF := hS.drew
    have hS : St w T0 [(b16, .cells ⟨paxC { x with id := n }⟩ T_api_Pax (0, 0)), (sb, .cells ⟨[.slice a s.eqs.length ca, .slice b s.fls.length cb, .slice c s.pxs.length cc]⟩ T_api_State (0, 0))] _ := hF.sub (List.Sublist.cons_cons _ (List.Sublist.cons _ (List.Sublist.cons _ (List.Sublist.cons _ (List.Sublist.cons_cons _ (List.nil_sublist _))))))
    refine jr ⟨?_⟩
    refine hF.al ?_
    intro r w6 _ hF
    have hF : St w T0 ((r, .cells ⟨paxC ({ x with id := n } : PaxM)⟩ T_api_Pax (0, 0)) :: (b16, .cells ⟨paxC { x with id := n }⟩ T_api_Pax (0, 0)) :: (rb, rdC' t5) :: X1 :: X2 :: stH sb s a b c ca cb cc La Lr Lb Lc) _ := hF
    refine Chk.mk (hF.sub (List.Sublist.cons _ (List.Sublist.cons_cons _ (List.Sublist.cons _ (List.Sublist.cons _ (List.Sublist.cons _ (List.Sublist.cons_cons _ (List.nil_sublist _)))))))) ?_
    refine jr ⟨?_⟩
    refine St.app (sz := 13) (m := 1) tblOk rfl rfl rfl rfl hF hO.pxs (news := paxC ({ x with id := n } : PaxM)) rfl (by have := hF.arr (b := r) (T' := []) (by simp); exact this) rfl (by show (_ + _) * 88 ≤ _; omega) (by omega) ?_
    intro a6 c6 L6 w7 hv6 hF
    have e9 : s.pxs.flatMap paxC ++ paxC ({ x with id := n } : PaxM) = (s.pxs ++ [({ x with id := n } : PaxM)]).flatMap paxC := by simp
    have e8 : s.pxs.length + 1 = (s.pxs ++ [({ x with id := n } : PaxM)]).length := by simp
    rw [e9, e8] at hv6
    rw [e8]
    refine Chk.mk (hF.sub (List.Sublist.cons _ (List.Sublist.cons_cons _ (List.Sublist.cons _ (List.Sublist.cons _ (List.Sublist.cons _ (List.Sublist.cons_cons _ (List.nil_sublist _)))))))) ?_
    refine jr ⟨?_⟩
    refine hF.st rfl rfl ?_
    intro _ hS
    (repeat (refine jt ⟨?_⟩; refine hS.st rfl rfl ?_; intro _ hS)); refine jt ⟨?_⟩
    cases bd with
    | true => exact .inr ⟨_, rfl, fun h => (by cases he5.1 h), hnl rfl, hS.nil⟩
    | false =>
      have h5 : e5 = 0 := he5.2 rfl
      exact .inl ⟨by rw [h5], _, hlo, _, _, _, _, _, _, _, _, _, _, (⟨hO.eqs, hO.fls, hv6⟩ : StOwn (addR s (.px { x with id := n })) a b a6 ca cb c6 La Lr Lb L6), hS.sub (List.Sublist.cons _ (List.Sublist.cons _ (List.Sublist.cons _ (List.Sublist.cons _ (List.Sublist.cons _ (List.Sublist.refl _))))))⟩
  · (repeat (refine jt ⟨?_⟩; refine hS.st rfl rfl ?_; intro _ hS)); refine jt ⟨?_⟩
    refine .inr ⟨_, rfl, by decide, hnone fun ch hc he => ?_, hS.nil⟩
    rcases hc with rfl | rfl | rfl
    · exact h1 he
    · exact h2 he
    · exact h3 he
end Go.Proofs.YtinkmidjbdnibaaGreatDoor
namespace Go.Proofs.YtinkmidjbdnibaaGreatDoor
open Go Go.Eng Go.Proofs
theorem opsC_key (l : List OpM) (k : Nat) (hk : k < l.length) : (l.flatMap opDC)[k * 3]? = some (Str l[k].1) := by
  have h := opsC_at l k hk
  have h2 := congrArg (fun x => x[0]?) h
  simp only [List.getElem?_take, List.getElem?_drop, Nat.add_zero] at h2
  simpa [opDC] using h2
theorem flatD_app (p q : List OpM) : (p ++ q).flatMap opDC = p.flatMap opDC ++ q.flatMap opDC := List.flatMap_append
theorem opsC_oneP (l : List OpM) : (l.flatMap opDC).all Value.oneCell' = true := by
  induction l with
  | nil => rfl
  | cons p ps ih => rw [List.flatMap_cons, List.all_append, ih]; rfl
theorem opsC_len' (l : List OpM) : (l.flatMap opDC).length = l.length * 3 := by rw [opsC_len]; omega
theorem lenD_app (p q : List OpM) : p.length + q.length = (p ++ q).length := by simp
set_option maxHeartbeats 8000000 in
theorem put22_spec {w : World} {a : Option Addr} {cap : Nat} {l p q : List OpM} {o : OpM} (hpq : l = p ++ q) (hp : ∀ r ∈ p, Op.bytesLess o.1 r.1 = false) (hq : ∀ r ∈ q, Op.bytesLess o.1 r.1 = true)
    (ha : Arr w [] a (l.flatMap opDC)) (hA : a = none ∨ ∃ g off, a = some ⟨g, off, none⟩) (hcap : l.length ≤ cap) (hlen : l.length ≤ 16777216) :
    Cl Tryz.prog f_tarmacref22_put [.slice a l.length cap, .agg ⟨opDC o⟩] w fun v w' => ∃ a' c' L, v = .slice a' (p ++ [o] ++ q).length c' ∧ Vec T_api_Op 3 a' (p ++ [o] ++ q).length c' ((p ++ [o] ++ q).flatMap opDC) L ∧ St w [] L w' := by
  have hS := St.start w
  have hll : l.length = p.length + q.length := by rw [hpq, List.length_append]
  have hpl : p.length ≤ l.length := by omega
  have hcl := opsC_len l
  unfold opDC
  refine en_tarmacref22_put rfl ?_
  refine jq ⟨?_⟩
  refine hS.al ?_
  intro b3 w1 _ hS
  refine jq ⟨?_⟩
  refine SemW.loop (fun i : Nat => [(0, .slice a l.length cap), (3, ptr b3), (5, .int .i64 i)])
    (fun i w' => p.length ≤ i ∧ i ≤ l.length ∧ St w [] [(b3, .cells ⟨opDC o⟩ T_api_Op (0, 0))] w') (fun i => i) l.length
    ⟨rfl, rfl, rfl, trivial⟩ ⟨hpl, Nat.le_refl _, hS⟩ ?_
  clear hS
  rintro i w2 ⟨hi, hil, hS⟩
  by_cases hip : p.length < i
  · have hi1 : i - 1 < l.length := by omega
    obtain ⟨g, off, rfl, -, -⟩ := ha.get (j := (i - 1) * 3) (by omega)
    have hk := opsC_key l (i - 1) hi1
    have hge : Op.bytesLess o.1 l[i - 1].1 = true := by
      refine hq _ ?_
      subst hpq
      rw [List.getElem_append_right (by omega)]
      exact List.getElem_mem _
    generalize l[i - 1] = x at hk hge
    have hg1 : Op.bytesLess x.1 o.1 = false := bless_asym hge
    have hg2 : (Op.bytesLess x.1 o.1 || decide (x.1 = o.1)) = false := by
      rw [hg1, Bool.false_or]; refine decide_eq_false ?_; intro e; rw [e, bless_irrefl] at hge; cases hge
    refine jq ⟨?_⟩
    refine SemW.draw tblOk mixed (fun w' => St w [] [(b3, .cells ⟨opDC o⟩ T_api_Op (0, 0))] w') [] [0, 1, 2, 3, 4, 5, 6, 7, 8, 9, 10, 11, 12] (by kernel_rfl) hS.drew ?_
    have hS := hS.drew
    generalize w2.drew = w2 at hS
    unfold opDC at hS
    refine jr ⟨?_⟩
    rw [show ((i : Int) - 1) = ((i - 1 : Nat) : Int) by omega]
    refine jr ⟨?_⟩
    refine Arr.ldcC ha hk (by simp) ?_
    refine jr ⟨?_⟩
    rw [hg2]
    refine jr ⟨?_⟩
    exact ⟨i - 1, ⟨rfl, rfl, by show _ = (_ : Value); rw [show ((i : Int) - 1) = ((i - 1 : Nat) : Int) by omega], trivial⟩, ⟨by omega, by omega, hS⟩, by omega⟩
  · have hie : i = p.length := by omega
    subst hie
    rcases hA with rfl | ⟨g, off, rfl⟩
    · have hl0 : l = [] := by
        cases l with
        | nil => rfl
        | cons x l => obtain ⟨g, off, h, -⟩ := ha.get (j := 0) (by simp [opDC]); cases h
      have hl00 : l.length = 0 := by rw [hl0]; rfl
      have hp0 : p = [] := List.eq_nil_of_length_eq_zero (by omega)
      have hq0 : q = [] := List.eq_nil_of_length_eq_zero (by omega)
      subst hp0 hq0
      have hpz : ([] : List OpM).length = 0 := rfl
      refine jq ⟨?_⟩
      refine SemW.draw tblOk mixed (fun w' => St w [] [(b3, .cells ⟨opDC o⟩ T_api_Op (0, 0))] w') [] [0, 1, 2, 3, 4, 5, 6, 7, 8, 9, 10, 11, 12] (by kernel_rfl) hS.drew ?_
      have hS := hS.drew
      generalize w2.drew = w2 at hS
      unfold opDC at hS
      refine jr ⟨?_⟩
      have hS : St w [] ([] ++ [(b3, .cells ⟨[Str o.1, .bool o.2.1, Str o.2.2]⟩ T_api_Op (0, 0))]) w2 := hS
      have hv : Vec T_api_Op 3 none ([] : List OpM).length 0 (([] : List OpM).flatMap opDC) [] := Vec.nil
      (repeat (refine jt ⟨?_⟩; refine hS.st rfl rfl ?_; intro _ hS)); refine jt ⟨?_⟩
      refine St.app (sz := 3) (m := (([] : List OpM)).length) tblOk rfl rfl rfl rfl hS hv (news := (([] : List OpM)).flatMap opDC) (opsC_len' _) (Arr.nil _ _ _) (opsC_oneP _) (by show (_ + _) * 40 ≤ _; (try simp); (try omega)) (by (try simp); (try omega)) ?_
      intro a1 c1 L1 w3 hv hS
      rw [← flatD_app, lenD_app] at hv
      rw [lenD_app ([]) (([] : List OpM))]
      rw [List.nil_append] at hv
      rw [List.nil_append]
      (repeat (refine jt ⟨?_⟩; refine hS.st rfl rfl ?_; intro _ hS)); refine jt ⟨?_⟩
      refine hS.al ?_
      intro r w4 _ hS
      (repeat (refine jt ⟨?_⟩; refine hS.st rfl rfl ?_; intro _ hS)); refine jt ⟨?_⟩
      refine St.app (sz := 3) (m := ([o]).length) tblOk rfl rfl rfl rfl hS hv (news := ([o]).flatMap opDC) (opsC_len' _) (by have := hS.arr (b := r) (T' := []) (by simp); exact this) (opsC_oneP _) (by show (_ + _) * 40 ≤ _; (try simp); (try omega)) (by (try simp); (try omega)) ?_
      intro a1 c1 L1 w3 hv hS
      rw [← flatD_app, lenD_app] at hv
      rw [lenD_app ([]) ([o])]
      have hS : St w [] (L1 ++ [(b3, .cells ⟨[Str o.1, .bool o.2.1, Str o.2.2]⟩ T_api_Op (0, 0))]) w3 := hS.sub (List.sublist_cons_self _ _)
      (repeat (refine jt ⟨?_⟩; refine hS.st rfl rfl ?_; intro _ hS)); refine jt ⟨?_⟩
      rw [show l.length - ((([] : List OpM).length : Nat) : Int).toNat = ([] : List OpM).length by rw [hl00]; rfl]
      refine St.app (sz := 3) (m := (([] : List OpM)).length) tblOk rfl rfl rfl rfl hS hv (news := (([] : List OpM)).flatMap opDC) (opsC_len' _) (Arr.nil _ _ _) (opsC_oneP _) (by show (_ + _) * 40 ≤ _; (try simp); (try omega)) (by (try simp); (try omega)) ?_
      intro a1 c1 L1 w3 hv hS
      rw [← flatD_app, lenD_app] at hv
      rw [lenD_app ([] ++ [o]) (([] : List OpM))]
      (repeat (refine jt ⟨?_⟩; refine hS.st rfl rfl ?_; intro _ hS)); refine jt ⟨?_⟩
      exact ⟨a1, c1, L1, rfl, hv, hS.sub (List.sublist_append_left _ _)⟩
    · have hap : Arr w [] (some ⟨g, off, none⟩) (p.flatMap opDC) := by rw [hpq, flatD_app] at ha; exact Arr.take ha
      have haq : Arr w [] (subA g off p.length cap 3) (q.flatMap opDC) := by
        rw [hpq, flatD_app] at ha
        refine Arr.dropS (k := p.length) ha (opsC_len' _) fun h => ?_
        have : q.length ≠ 0 := fun h0 => h (by rw [List.eq_nil_of_length_eq_zero h0]; rfl)
        omega
      by_cases hp0 : p = []
      · have hpz : p.length = 0 := by rw [hp0]; rfl
        refine jq ⟨?_⟩
        refine SemW.draw tblOk mixed (fun w' => St w [] [(b3, .cells ⟨opDC o⟩ T_api_Op (0, 0))] w') [] [0, 1, 2, 3, 4, 5, 6, 7, 8, 9, 10, 11, 12] (by kernel_rfl) hS.drew ?_
        have hS := hS.drew
        generalize w2.drew = w2 at hS
        unfold opDC at hS
        refine jr ⟨?_⟩
        have hv : Vec T_api_Op 3 none ([] : List OpM).length 0 (([] : List OpM).flatMap opDC) [] := Vec.nil
        have hS : St w [] ([] ++ [(b3, .cells ⟨[Str o.1, .bool o.2.1, Str o.2.2]⟩ T_api_Op (0, 0))]) w2 := hS
        (repeat (refine jt ⟨?_⟩; refine hS.st rfl rfl ?_; intro _ hS)); refine jt ⟨?_⟩
        refine St.app (sz := 3) (m := (p).length) tblOk rfl rfl rfl rfl hS hv (news := (p).flatMap opDC) (opsC_len' _) (hS.arrOld hap) (opsC_oneP _) (by show (_ + _) * 40 ≤ _; (try simp); (try omega)) (by (try simp); (try omega)) ?_
        intro a1 c1 L1 w3 hv hS
        rw [← flatD_app, lenD_app] at hv
        rw [lenD_app ([]) (p)]
        rw [List.nil_append] at hv
        rw [List.nil_append]
        (repeat (refine jt ⟨?_⟩; refine hS.st rfl rfl ?_; intro _ hS)); refine jt ⟨?_⟩
        refine hS.al ?_
        intro r w4 _ hS
        (repeat (refine jt ⟨?_⟩; refine hS.st rfl rfl ?_; intro _ hS)); refine jt ⟨?_⟩
        refine St.app (sz := 3) (m := ([o]).length) tblOk rfl rfl rfl rfl hS hv (news := ([o]).flatMap opDC) (opsC_len' _) (by have := hS.arr (b := r) (T' := []) (by simp); exact this) (opsC_oneP _) (by show (_ + _) * 40 ≤ _; (try simp); (try omega)) (by (try simp); (try omega)) ?_
        intro a1 c1 L1 w3 hv hS
        rw [← flatD_app, lenD_app] at hv
        rw [lenD_app (p) ([o])]
        have hS : St w [] (L1 ++ [(b3, .cells ⟨[Str o.1, .bool o.2.1, Str o.2.2]⟩ T_api_Op (0, 0))]) w3 := hS.sub (List.sublist_cons_self _ _)
        (repeat (refine jt ⟨?_⟩; refine hS.st rfl rfl ?_; intro _ hS)); refine jt ⟨?_⟩
        rw [show l.length - ((p.length : Nat) : Int).toNat = q.length by omega]
        refine St.app (sz := 3) (m := (q).length) tblOk rfl rfl rfl rfl hS hv (news := (q).flatMap opDC) (opsC_len' _) (hS.arrOld haq) (opsC_oneP _) (by show (_ + _) * 40 ≤ _; (try simp); (try omega)) (by (try simp); (try omega)) ?_
        intro a1 c1 L1 w3 hv hS
        rw [← flatD_app, lenD_app] at hv
        rw [lenD_app (p ++ [o]) (q)]
        (repeat (refine jt ⟨?_⟩; refine hS.st rfl rfl ?_; intro _ hS)); refine jt ⟨?_⟩
        exact ⟨a1, c1, L1, rfl, hv, hS.sub (List.sublist_append_left _ _)⟩
      · have hpz : 0 < p.length := List.length_pos_iff.2 hp0
        have hk0 := opsC_key l (p.length - 1) (by omega)
        have hlt : Op.bytesLess o.1 l[p.length - 1].1 = false := by
          refine hp _ ?_
          subst hpq
          rw [List.getElem_append_left (by omega)]
          exact List.getElem_mem _
        generalize l[p.length - 1] = y at hk0 hlt
        have hgt : (Op.bytesLess y.1 o.1 || decide (y.1 = o.1)) = true := by
          rcases bless_tri y.1 o.1 with h | h | h
          · rw [h]; rfl
          · rw [h]; simp
          · rw [hlt] at h; cases h
        refine jq ⟨?_⟩
        refine SemW.draw tblOk mixed (fun w' => St w [] [(b3, .cells ⟨opDC o⟩ T_api_Op (0, 0))] w') [] [0, 1, 2, 3, 4, 5, 6, 7, 8, 9, 10, 11, 12] (by kernel_rfl) hS.drew ?_
        have hS := hS.drew
        generalize w2.drew = w2 at hS
        unfold opDC at hS
        refine jr ⟨?_⟩
        rw [show ((p.length : Int) - 1) = ((p.length - 1 : Nat) : Int) by omega]
        refine jr ⟨?_⟩
        refine Arr.ldcC ha hk0 (by simp) ?_
        refine jr ⟨?_⟩
        rw [hgt]
        refine jr ⟨?_⟩
        have hv : Vec T_api_Op 3 none ([] : List OpM).length 0 (([] : List OpM).flatMap opDC) [] := Vec.nil
        have hS : St w [] ([] ++ [(b3, .cells ⟨[Str o.1, .bool o.2.1, Str o.2.2]⟩ T_api_Op (0, 0))]) w2 := hS
        (repeat (refine jt ⟨?_⟩; refine hS.st rfl rfl ?_; intro _ hS)); refine jt ⟨?_⟩
        refine St.app (sz := 3) (m := (p).length) tblOk rfl rfl rfl rfl hS hv (news := (p).flatMap opDC) (opsC_len' _) (hS.arrOld hap) (opsC_oneP _) (by show (_ + _) * 40 ≤ _; (try simp); (try omega)) (by (try simp); (try omega)) ?_
        intro a1 c1 L1 w3 hv hS
        rw [← flatD_app, lenD_app] at hv
        rw [lenD_app ([]) (p)]
        rw [List.nil_append] at hv
        rw [List.nil_append]
        (repeat (refine jt ⟨?_⟩; refine hS.st rfl rfl ?_; intro _ hS)); refine jt ⟨?_⟩
        refine hS.al ?_
        intro r w4 _ hS
        (repeat (refine jt ⟨?_⟩; refine hS.st rfl rfl ?_; intro _ hS)); refine jt ⟨?_⟩
        refine St.app (sz := 3) (m := ([o]).length) tblOk rfl rfl rfl rfl hS hv (news := ([o]).flatMap opDC) (opsC_len' _) (by have := hS.arr (b := r) (T' := []) (by simp); exact this) (opsC_oneP _) (by show (_ + _) * 40 ≤ _; (try simp); (try omega)) (by (try simp); (try omega)) ?_
        intro a1 c1 L1 w3 hv hS
        rw [← flatD_app, lenD_app] at hv
        rw [lenD_app (p) ([o])]
        have hS : St w [] (L1 ++ [(b3, .cells ⟨[Str o.1, .bool o.2.1, Str o.2.2]⟩ T_api_Op (0, 0))]) w3 := hS.sub (List.sublist_cons_self _ _)
        (repeat (refine jt ⟨?_⟩; refine hS.st rfl rfl ?_; intro _ hS)); refine jt ⟨?_⟩
        rw [show l.length - ((p.length : Nat) : Int).toNat = q.length by omega]
        refine St.app (sz := 3) (m := (q).length) tblOk rfl rfl rfl rfl hS hv (news := (q).flatMap opDC) (opsC_len' _) (hS.arrOld haq) (opsC_oneP _) (by show (_ + _) * 40 ≤ _; (try simp); (try omega)) (by (try simp); (try omega)) ?_
        intro a1 c1 L1 w3 hv hS
        rw [← flatD_app, lenD_app] at hv
        rw [lenD_app (p ++ [o]) (q)]
        (repeat (refine jt ⟨?_⟩; refine hS.st rfl rfl ?_; intro _ hS)); refine jt ⟨?_⟩
        exact ⟨a1, c1, L1, rfl, hv, hS.sub (List.sublist_append_left _ _)⟩
set_option maxRecDepth 4000 in
theorem Key22_spec {w : World} (c : UInt8) (hc : ¬ c = 0) (n : Int) (hn : i64b n) : Cl Tryz.prog f_tarmacref22_Key [Str [c], .int .i64 n] w fun v w' => v = Str (keyB c n) ∧ St w [] [] w' := by
  have hS := St.start w
  refine en_tarmacref22_Key rfl ?_
  refine jq ⟨?_⟩
  refine hS.al ?_
  intro r w1 _ hS
  refine jq ⟨?_⟩
  refine Cl.mono (KeyG03_spec (ps := [.text [c], .num n]) (hS.arr (b := r) (by simp)) (spl_keyB hc hn).2 (by simp) (by rw [(spl_keyB hc hn).1, keyB_len]; decide)) ?_
  rintro _ w2 ⟨rfl, hS'⟩
  have hS := hS.call0 hS'
  rw [(spl_keyB hc hn).1]
  refine jq ⟨?_⟩
  exact ⟨rfl, hS.nil⟩
end Go.Proofs.YtinkmidjbdnibaaGreatDoor
