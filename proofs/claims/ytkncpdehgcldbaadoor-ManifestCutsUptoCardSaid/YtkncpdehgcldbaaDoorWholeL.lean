/- Plain: one edit makes a version of nothing. -/
import Derived.Test.YtkncpdehgcldbaaDoorLive11
namespace Go.Proofs.YtkncpdehgcldbaaDoor
open Go Go.Eng Go.Proofs Go.Srt
def wholeE (v : VM) : EM := ⟨v.files, [], v.wal, v.next, v.seq⟩
def GoodF (next : Int) (fs : List FileM) : Prop := (∀ f ∈ fs, okAdd f = true ∧ f.2 < next) ∧ (fs.map (·.2)).Nodup
structure Good (v : VM) : Prop where
  files : GoodF v.next v.files
  nn : 0 ≤ v.wal ∧ 0 ≤ v.next ∧ 0 ≤ v.seq
  so : sortV v = v
theorem Good.zero : Good zeroV := ⟨⟨by simp [zeroV], by simp [zeroV]⟩, by decide, rfl⟩
theorem hasF_mem (fs : List FileM) (n : Int) : hasF fs n = true ↔ n ∈ fs.map (·.2) := by
  unfold hasF
  rw [List.any_eq_true, List.mem_map]
  simp only [beq_iff_eq]
theorem GoodF.snoc {next : Int} {fs : List FileM} {f : FileM} (h : GoodF next fs) (h1 : okAdd f = true) (h2 : f.2 < next) (h3 : hasF fs f.2 = false) : GoodF next (fs ++ [f]) := by
  refine ⟨fun g hg => ?_, ?_⟩
  · rcases List.mem_append.1 hg with hg | hg
    · exact h.1 g hg
    · rw [List.mem_singleton] at hg; subst hg; exact ⟨h1, h2⟩
  · rw [List.map_append, List.nodup_append]
    refine ⟨h.2, by simp, fun a ha b hb => ?_⟩
    rw [List.map_singleton, List.mem_singleton] at hb
    subst hb
    intro e
    subst e
    have := (hasF_mem fs f.2).2 ha
    rw [h3] at this; cases this
theorem addAll_good {next : Int} : ∀ {r fs a : List FileM}, addAll next fs r = some a → GoodF next fs → (∀ f ∈ r, okAdd f = true) → GoodF next a
  | [], fs, a, h, hg, _ => by cases h; exact hg
  | f :: r, fs, a, h, hg, hr => by
    unfold addAll at h
    split at h
    · cases h
    · next hc =>
      have h3 : hasF fs f.2 = false := by
        cases e : hasF fs f.2 with
        | false => rfl
        | true => exact absurd (.inr e) hc
      have h2 : f.2 < next := by
        rcases Int.lt_or_le f.2 next with h | h
        · exact h
        · exact absurd (.inl h) hc
      exact addAll_good h (hg.snoc (hr f (by simp)) h2 h3) fun g hgr => hr g (by simp [hgr])
theorem addAll_all {next : Int} : ∀ (r fs : List FileM), GoodF next (fs ++ r) → addAll next fs r = some (fs ++ r)
  | [], fs, _ => by simp [addAll]
  | f :: r, fs, h => by
    unfold addAll
    have h2 := (h.1 f (by simp)).2
    have h3 : ¬ hasF fs f.2 = true := by
      intro e
      have h4 := (hasF_mem fs f.2).1 e
      have h5 := h.2
      rw [List.map_append, List.nodup_append] at h5
      exact h5.2.2 f.2 h4 f.2 (by simp) rfl
    rw [if_neg (by rintro (h' | h'); omega; exact h3 h')]
    have := addAll_all r (fs ++ [f]) (by simpa using h)
    simpa using this
theorem GoodF.perm {next : Int} {fs gs : List FileM} (h : GoodF next fs) (hp : gs.Perm fs) : GoodF next gs :=
  ⟨fun f hf => h.1 f (hp.mem_iff.1 hf), (hp.map _).nodup_iff.2 h.2⟩
theorem Good.step {v v' : VM} {e : EM} (h : Good v) (ha : applyM v e = some v') : Good v' := by
  have hso := applyM_sorted ha
  unfold applyM at ha
  split at ha
  · next hc =>
    rw [Bool.and_eq_true] at hc
    obtain ⟨hst, -⟩ := hc
    unfold startOK rightE at hst
    simp only [Bool.and_eq_true, decide_eq_true_iff] at hst
    obtain ⟨⟨⟨⟨hadd, -⟩, hnn⟩, hnx⟩, -⟩ := hst
    cases hal : addAll e.next (keepF e v.files) e.add with
    | none => rw [hal] at ha; cases ha
    | some a =>
      rw [hal] at ha
      simp only [Option.map_some, Option.some.injEq] at ha
      subst ha
      have hk : GoodF e.next (keepF e v.files) := by
        refine ⟨fun f hf => ?_, (List.filter_sublist.map _).nodup h.files.2⟩
        have := h.files.1 f ((List.mem_filter.1 hf).1)
        exact ⟨this.1, by have := this.2; omega⟩
      have hg := addAll_good hal hk (List.all_eq_true.1 hadd)
      exact ⟨hg.perm (sortF_perm a), hnn, hso⟩
  · cases ha
theorem whole_law {v : VM} (h : Good v) : applyM zeroV (wholeE v) = some v := by
  have hst : startOK zeroV (wholeE v) = true := by
    unfold startOK rightE
    simp only [Bool.and_eq_true, decide_eq_true_iff]
    refine ⟨⟨⟨⟨List.all_eq_true.2 fun f hf => (h.files.1 f hf).1, rfl⟩, h.nn⟩, h.nn.2.1⟩, h.nn.2.2⟩
  unfold applyM
  have hd : delOK (wholeE v) zeroV.files = true := rfl
  rw [hst, hd]
  have hk : keepF (wholeE v) zeroV.files = [] := rfl
  have hal := addAll_all (next := (wholeE v).next) (wholeE v).add [] (by rw [List.nil_append]; exact h.files)
  rw [hk, hal, List.nil_append]
  have hso : sortF v.files = v.files := congrArg VM.files h.so
  simp only [Bool.and_self, if_true, Option.map_some, wholeE, hso]
theorem wholeE_len (v : VM) : (wholeE v).add.length + (wholeE v).del.length = v.files.length := rfl
end Go.Proofs.YtkncpdehgcldbaaDoor
