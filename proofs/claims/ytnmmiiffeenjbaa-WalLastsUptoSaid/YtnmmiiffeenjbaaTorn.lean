/- Plain laws of a log with fates: one append, a crash, what is found. -/
import Derived.Test.YtnmmiiffeenjbaaPower
import Derived.Test.YtnmmiiffeenjbaaOpenF
namespace Go.Proofs.Ytnmmiiffeenjbaa
open Go Go.Eng Go.Proofs

theorem okLens_app (ps qs : List Bytes) : okLens (ps ++ qs) = (okLens ps && okLens qs) := by simp [okLens]
theorem okLens_take (ps : List Bytes) (h : okLens ps = true) (i : Nat) : okLens (ps.take i) = true := by
  unfold okLens at h ⊢
  rw [List.all_eq_true] at h ⊢
  exact fun x hx => h x (List.mem_of_mem_take hx)
/-- The beginnings of sealed payloads: whole frames, and a beginning of one more. -/
theorem seal_take : ∀ (b : List Bytes) (j : Nat), okLens b = true → ∃ i, i ≤ b.length ∧ ∃ t, (sealB b).take j = sealB (b.take i) ++ t ∧ (t = [] ∨ ∃ p, p.length ≤ 65536 ∧ t.length < p.length + 8 ∧ t = (frameB p).take t.length)
  | [], j, _ => ⟨0, Nat.le_refl _, [], by simp [sealB], .inl rfl⟩
  | p :: r, j, h => by
    have hl := frameB_len p
    have e : sealB (p :: r) = frameB p ++ sealB r := by simp [sealB]
    simp only [okLens, List.all_cons, Bool.and_eq_true, decide_eq_true_eq] at h
    by_cases hj : j < (frameB p).length
    · refine ⟨0, Nat.zero_le _, (frameB p).take j, ?_, .inr ⟨p, h.1, by simp; omega, by simp⟩⟩
      rw [e, List.take_append_of_le_length (by omega)]; simp [sealB]
    · obtain ⟨i, hi, t, h1, h2⟩ := seal_take r (j - (frameB p).length) h.2
      refine ⟨i + 1, by simp; omega, t, ?_, h2⟩
      rw [e, List.take_append, List.take_of_length_le (by omega), h1, List.take_succ_cons]
      simp [sealB]
theorem firstM_cut (pre t : Bytes) (h : t = [] ∨ ∃ p : Bytes, p.length ≤ 65536 ∧ t.length < p.length + 8 ∧ t = (frameB p).take t.length) : (firstM (pre ++ t) pre.length).2.2 ≠ 0 := by
  by_cases h8 : t.length < 8
  · rw [firstM_end _ _ (by simp; omega)]; simp
  · rcases h with rfl | ⟨p, hp, hl, ht⟩
    · simp at h8
    · unfold firstM
      rw [if_neg (by simp; omega), if_pos]
      · simp
      · right
        rw [List.drop_left]
        have h4 : num4 t = p.length := by
          rw [ht]
          have : (frameB p).take t.length = be4 p.length ++ (be4 (crcN [be4 p.length, p]) ++ p).take (t.length - 4) := by
            rw [show frameB p = be4 p.length ++ (be4 (crcN [be4 p.length, p]) ++ p) by simp [frameB], List.take_append, List.take_of_length_le (by simp [be4]; omega)]
            rfl
          rw [this, num4_app _ _ (by omega)]
        rw [h4]; omega
/-- What is found of whole frames and a beginning of more. -/
theorem scan_cut (ps b : List Bytes) (hp : okLens ps = true) (hb : okLens b = true) (j : Nat) : ∃ i, i ≤ b.length ∧ (∃ t, sealB ps ++ (sealB b).take j = sealB (ps ++ b.take i) ++ t) ∧ (scan (sealB ps ++ (sealB b).take j)).1 = ps ++ b.take i ∧
    (scan (sealB ps ++ (sealB b).take j)).2 = (sealB (ps ++ b.take i)).length := by
  obtain ⟨i, hi, t, h1, h2⟩ := seal_take b j hb
  refine ⟨i, hi, ⟨t, by rw [h1, sealB_app, List.append_assoc]⟩, ?_⟩
  have e : sealB ps ++ (sealB b).take j = [] ++ (sealB (ps ++ b.take i) ++ t) := by rw [h1, sealB_app]; simp
  have hok : okLens (ps ++ b.take i) = true := by rw [okLens_app, hp, okLens_take b hb]; rfl
  have hc := firstM_cut (sealB (ps ++ b.take i)) t h2
  rw [e]
  unfold scan
  have h3 := scanM_frames t 0 (ps ++ b.take i) [] (([] ++ (sealB (ps ++ b.take i) ++ t)).length + 1) hok (by
    have := sealB_len (ps ++ b.take i)
    simp only [List.nil_append, List.length_append] at this ⊢; omega) (by simpa using hc)
  have h4 : ([] : Bytes).length = 0 := rfl
  rw [h4] at h3
  rw [h3]
  exact ⟨rfl, by simp⟩

theorem kput_one (o : Option (Bytes × Nat)) (v : Bytes × Nat) (k : Nat) : kput logN v (oneM logN o k).files = (oneM logN (some v) 0).files := by
  cases o <;> simp [oneM, kput]
theorem kget_one (o : Option (Bytes × Nat)) (k : Nat) : kget logN (oneM logN o k).files = o := by
  cases o <;> simp [oneM, kget]
/-- The log's file: S, all synced. -/
structure Whole (m : FSm) (S : Bytes) : Prop where
  off : m.off = false
  ex : ∃ o, m.files = (oneM logN o 0).files ∧ o.getD ([], 0) = (S, S.length)
/-- The log's file: S, synced, and x behind it. -/
structure Broken (m : FSm) (S x : Bytes) : Prop where
  ex : ∃ o s, m.files = (oneM logN o 0).files ∧ o.getD ([], 0) = (S ++ x, s) ∧ S.length ≤ s ∧ s ≤ (S ++ x).length
theorem Whole.broken {m : FSm} {S : Bytes} (h : Whole m S) : Broken m S [] := by
  obtain ⟨-, o, h1, h2⟩ := h
  exact ⟨o, S.length, h1, by simpa using h2, Nat.le_refl _, by simp⟩
theorem wl_step {m : FSm} {S : Bytes} (h : Whole m S) (n : Nat) (ps : List Bytes) :
    ∃ e n' dead m', logAppM m logN n false false ps = (e, (n', dead), m') ∧ m'.armed ≤ m.armed + 2 ∧ m'.acts ≤ m.acts + 2 ∧
      ((e = 0 ∧ okLens ps = true ∧ Whole m' (S ++ sealB ps) ∧ n' = n + ps.length ∧ dead = false) ∨ (e = 2 ∧ Whole m' S ∧ n' = n ∧ dead = false) ∨ (e = 6 ∧ Whole m' S ∧ n' = n ∧ dead = false) ∨
        (e = 7 ∧ okLens ps = true ∧ 0 < ps.length ∧ ∃ x, (x = [] ∨ x = sealB ps) ∧ Broken m' S x)) := by
  have hw := h
  obtain ⟨hoff, o, hf, ho⟩ := h
  have hg : fget m logN = o := by unfold fget; rw [hf, kget_one]
  have hnm : named logN = true := rfl
  unfold logAppM
  rw [hoff]
  simp only [Bool.or_self, Bool.false_eq_true, if_false]
  by_cases hok' : okLens ps = false
  · rw [if_pos hok']
    exact ⟨_, _, _, _, rfl, by omega, by omega, .inr (.inl ⟨rfl, hw, rfl, rfl⟩)⟩
  rw [if_neg hok']
  have hok : okLens ps = true := by simpa using hok'
  by_cases hps : ps = []
  · subst hps
    rw [if_pos rfl]
    exact ⟨_, _, _, _, rfl, by omega, by omega, .inl ⟨rfl, hok, by simpa [sealB] using hw, rfl, rfl⟩⟩
  rw [if_neg hps]
  by_cases h3 : fateOf m = 3
  · rw [app3 _ _ _ hoff hnm h3]
    exact ⟨_, _, _, _, rfl, by simp, by simp, .inr (.inr (.inl ⟨rfl, ⟨rfl, o, hf, ho⟩, rfl, rfl⟩))⟩
  by_cases h1 : fateOf m = 1
  · rw [app1 _ _ _ hoff hnm h1]
    exact ⟨_, _, _, _, rfl, by simp, by simp, .inr (.inr (.inr ⟨rfl, hok, List.length_pos_iff.2 hps, [], .inl rfl, ⟨o, S.length, hf, by simpa using ho, Nat.le_refl _, by simp⟩⟩))⟩
  by_cases h2 : fateOf m = 2
  · rw [app2 _ _ _ hoff hnm h2, hg, ho, hf, kput_one]
    exact ⟨_, _, _, _, rfl, by simp, by simp, .inr (.inr (.inr ⟨rfl, hok, List.length_pos_iff.2 hps, sealB ps, .inr rfl, ⟨some (S ++ [sealB ps].flatten, S.length), S.length, rfl, by simp, Nat.le_refl _, by simp⟩⟩))⟩
  have e1 : appendM m logN [sealB ps] = (0, ⟨(oneM logN (some (S ++ sealB ps, S.length)) 0).files, m.fates, m.armed + 1, m.acts + 1, false⟩) := by
    unfold appendM acted
    rw [if_neg (by simp [hoff]), if_neg (by simp [hnm]), if_neg h3, if_neg h1, hg, ho, hf, kput_one]
    simp [h1, h2]
  rw [e1]
  generalize hm1 : (⟨(oneM logN (some (S ++ sealB ps, S.length)) 0).files, m.fates, m.armed + 1, m.acts + 1, false⟩ : FSm) = m1
  have g1 : m1.files = (oneM logN (some (S ++ sealB ps, S.length)) 0).files := by rw [← hm1]
  have g2 : m1.off = false := by rw [← hm1]
  have g3 : m1.armed = m.armed + 1 := by rw [← hm1]
  have g4 : m1.acts = m.acts + 1 := by rw [← hm1]
  have g5 : findM m1 logN = ((S ++ sealB ps, S.length), 0) := by
    unfold findM fget
    rw [g2, g1, kget_one]; rfl
  simp only [ne_eq, not_true_eq_false, if_false]
  unfold syncM
  rw [g5]
  simp only [ne_eq, not_true_eq_false, if_false]
  by_cases k1 : fateOf m1 = 1
  · have : (acted m1).off = true := by simp [acted, k1]
    rw [this, if_pos k1]
    exact ⟨_, _, _, _, rfl, by simp [acted, g3], by simp [acted, g4], .inr (.inr (.inr ⟨rfl, hok, List.length_pos_iff.2 hps, sealB ps, .inr rfl, ⟨_, S.length, g1, by simp, Nat.le_refl _, by simp⟩⟩))⟩
  rw [if_neg k1, g1, kput_one]
  by_cases k2 : fateOf m1 = 2
  · have : (acted m1).off = true := by simp [acted, k2]
    rw [this]
    exact ⟨_, _, _, _, rfl, by simp [acted, g3], by simp [acted, g4], .inr (.inr (.inr ⟨rfl, hok, List.length_pos_iff.2 hps, sealB ps, .inr rfl, ⟨some (S ++ sealB ps, (S ++ sealB ps).length), (S ++ sealB ps).length, rfl, rfl, by simp, Nat.le_refl _⟩⟩))⟩
  · have : (acted m1).off = false := by simp [acted, k1, k2]
    rw [this]
    exact ⟨_, _, _, _, rfl, by simp [acted, g3], by simp [acted, g4], .inl ⟨rfl, hok, ⟨rfl, some (S ++ sealB ps, (S ++ sealB ps).length), rfl, rfl⟩, rfl, rfl⟩⟩
/-- Behind a crash: S and a beginning of x. -/
theorem Broken.crash {m : FSm} {S x : Bytes} (h : Broken m S x) : ∃ o : Option (Bytes × Nat), m.files = (oneM logN o 0).files ∧ (o.getD ([], 0)).2 ≤ (o.getD ([], 0)).1.length ∧ (o.getD ([], 0)).1.length = (S ++ x).length ∧
    ∀ cuts, ∃ (j : Nat) (o' : Option Bytes), (oneM logN (o.map fun y => cutFile y (keepOf y cuts 0)) 0) = fsmT o' 0 ∧ o'.getD [] = S ++ x.take j := by
  obtain ⟨o, s, h1, h2, h3, h4⟩ := h
  refine ⟨o, h1, by rw [h2]; exact h4, by rw [h2], fun cuts => ?_⟩
  cases o with
  | none =>
    simp at h2
    obtain ⟨⟨rfl, rfl⟩, rfl⟩ := h2
    exact ⟨0, none, rfl, rfl⟩
  | some y =>
    have h2 : y = (S ++ x, s) := h2
    subst h2
    have hk := keepOf_le (S ++ x, s) cuts 0
    simp only at hk
    simp only [Option.map_some]
    generalize keepOf (S ++ x, s) cuts 0 = q at hk ⊢
    refine ⟨s + q - S.length, some ((S ++ x).take (s + q)), ?_, ?_⟩
    · simp only [cutFile, oneM, fsmT, List.length_take]
      rw [Nat.min_eq_left (by omega)]
    · show (S ++ x).take (s + q) = _
      rw [List.take_append, List.take_of_length_le (by omega)]
/-- Ends by one exit alone. -/
def exQ (id : Nat) (K : Env → World → Prop) : Exit → Env → World → Prop
  | .exit k, e, w => k = id ∧ K e w
  | _, _, _ => False
/-- The ways out of a loop meet again. -/
theorem StopW.join {P : Program} {N : Nat} {c y : Code} {id : Nat} {Q1 Q2 : Exit → Env → World → Prop} {e : Env} {w : World} {ι : Type} (I : ι → Env) (J : ι → World → Prop)
    (h : StopW P N c (exQ id fun e' w' => ∃ i, subG (I i) e' ∧ J i w') e w) (hy : ∀ i w', J i w' → SemW P N y Q1 (I i) w') : StopW P N c (blkQ id (thenQ (SemW P N y Q1) Q2)) e w := by
  refine ⟨h.out.mono fun ex e' w' hq => ?_⟩
  cases ex with
  | exit k =>
    obtain ⟨rfl, i, h1, h2⟩ := hq
    simp only [blkQ, thenQ, Nat.beq_refl]
    exact SemW.weaken h1 (hy i w' h2)
  | _ => exact hq.elim
/-- Open where a log was cut off. -/
theorem Open_cut {w : World} {f : Nat} {L : Heap} {o : Option Bytes} {k : Nat} (hF : FSo f (fsmT o k) L) (hh : Holds L w) (ps b : List Bytes) (j : Nat) (ho : o.getD [] = sealB ps ++ (sealB b).take j) (hp : okLens ps = true) (hb : okLens b = true)
    (hlen : (sealB ps ++ (sealB b).take j).length ≤ 1099511627776) :
    Cl Try.prog f_wal_Open [ptr f, Str logN] w fun v w' => ∃ i bl a cap Lv, i ≤ b.length ∧ (∃ t, o.getD [] = sealB (ps ++ b.take i) ++ t) ∧ w.heap.size ≤ bl ∧ v = .tuple ⟨[ptr bl, .slice a ((ps.length + i : Nat)) cap, .int .i64 0]⟩ ∧
      Vec T_string 1 a (ps.length + i) cap ((ps ++ b.take i).map Str) Lv ∧
      St w (keys L) (Lv ++ (bl, logC f logN (ps.length + i) (!decide ((sealB (ps ++ b.take i)).length = (o.getD []).length)) false) :: L) w' := by
  have h1 : (findM (fsmT o k) logN).1.1 = o.getD [] := by
    rw [findM_calm]; cases o <;> rfl
  obtain ⟨i, hi, ht, h2, h3⟩ := scan_cut ps b hp hb j
  rw [← ho] at h2 h3 ht hlen
  refine (Open_ok hF hh logN (openE_calm _ _) (by rw [h1]; exact hlen)).mono ?_
  rw [h1, h2, h3]
  have hl : (ps ++ b.take i).length = ps.length + i := by simp; omega
  rw [hl]
  rintro v w' ⟨bl, a, cap, Lv, h4, h5, h6, h7⟩
  exact ⟨i, bl, a, cap, Lv, hi, ht, h4, h5, h6, h7⟩
/-- Behind any one append: what is sure, and what may follow. -/
theorem wl_any {m : FSm} {su : List Bytes} (h : Whole m (sealB su)) (hok : okLens su = true) (n : Nat) (ps : List Bytes) :
    ∃ e n' dead m' su' y cu, logAppM m logN n false false ps = (e, (n', dead), m') ∧ Broken m' (sealB su') y ∧ (y = [] ∨ y = sealB cu) ∧ okLens su' = true ∧ okLens cu = true ∧
      sumLen su' ≤ sumLen su + sumLen ps ∧ su'.length ≤ su.length + ps.length ∧ sumLen cu ≤ sumLen ps ∧ cu.length ≤ ps.length := by
  obtain ⟨e, n', dead, m', hl, -, -, hc⟩ := wl_step h n ps
  rcases hc with ⟨-, h2, h3, -, -⟩ | ⟨-, h3, -, -⟩ | ⟨-, h3, -, -⟩ | ⟨-, h2, -, y, hy, hb⟩
  · exact ⟨e, n', dead, m', su ++ ps, [], [], hl, by rw [sealB_app]; exact h3.broken, .inl rfl, by rw [okLens_app, hok, h2]; rfl, rfl, by simp [sumLen], by simp, by simp [sumLen], by simp⟩
  · exact ⟨e, n', dead, m', su, [], [], hl, h3.broken, .inl rfl, hok, rfl, by omega, by omega, by simp [sumLen], by simp⟩
  · exact ⟨e, n', dead, m', su, [], [], hl, h3.broken, .inl rfl, hok, rfl, by omega, by omega, by simp [sumLen], by simp⟩
  · exact ⟨e, n', dead, m', su, y, ps, hl, hb, hy, hok, h2, by omega, by omega, Nat.le_refl _, Nat.le_refl _⟩
theorem nodup_far {w0 w : World} {T : List Nat} {Lv L : Heap} {x : Nat × Obj} (hS : St w0 T (Lv ++ x :: L) w) : ∀ b ∈ keys Lv, b ∉ keys L := by
  have := hS.nd
  rw [show keys (Lv ++ x :: L) = keys Lv ++ x.1 :: keys L by simp [keys]] at this
  intro b hb hL
  exact (List.nodup_append.1 this).2.2 b hb b (List.mem_cons_of_mem _ hL) rfl
theorem nodup_two {w0 w : World} {T : List Nat} {L : Heap} {b : Nat} {o : Obj} {x : Nat × Obj} (hS : St w0 T ((b, o) :: x :: L) w) : b ∉ keys L := by
  have := hS.nd
  rw [show keys ((b, o) :: x :: L) = b :: x.1 :: keys L by simp [keys]] at this
  intro hL
  exact (List.nodup_cons.1 this).1 (List.mem_cons_of_mem _ hL)

end Go.Proofs.Ytnmmiiffeenjbaa
