/- The document's digest: step. -/
import Derived.Test.YtklppplnkpnbhaaDoorRef19W
namespace Go.Proofs.YtklppplnkpnbhaaDoor
open Go Go.Eng Go.Proofs

set_option maxHeartbeats 8000000 in
set_option maxRecDepth 8000 in
theorem stepE_spec {w : World} {h W : List Nat} (hlen : h.length = 8) (hlt : ∀ x ∈ h, x < p32) (hwl : W.length = 64) (hwt : ∀ x ∈ W, x < p32) :
    Cl Tryd.prog f_tarmacref19_step [.agg ⟨h.map u32V⟩, .agg ⟨W.map u32V⟩] w fun v w' => v = .agg ⟨(addM h (rounds h W 64)).map u32V⟩ ∧ St w [] [] w' := by
  have hS := St.start w
  obtain ⟨h0, h1, h2, h3, h4, h5, h6, h7, rfl⟩ := eight h hlen
  refine en_tarmacref19_step rfl ?_
  repeat (first | refine SemW.run tblOk ?_ | refine IntG.nw (by omega) ?_ | refine IntG.nu8 (by omega) ?_ | refine IntG.nu32 (by omega) ?_ | refine IntG.nu64 (by omega) ?_ | refine IntG.wr' rfl ?_ | refine Chk.mk (by omega) ?_ | (refine BrG.id ?_; first | with_reducible refine BrG.t ?_ | with_reducible refine BrG.f ?_ | with_reducible refine BrG.notG ?_ | with_reducible refine BrG.nn ?_ | with_reducible refine BrG.ns ?_ | refine BrG.pos (by omega) ?_ | refine BrG.neg (by omega) ?_ | with_reducible refine BrG.pos rfl ?_ | refine BrG.pos (by assumption) ?_ | refine BrG.neg (by assumption) ?_) | refine Chk.mk (ptr_ok tblOk rfl rfl) ?_)
  refine hS.al ?_
  intro hb w1 _ hS
  repeat (first | refine SemW.run tblOk ?_ | refine IntG.nw (by omega) ?_ | refine IntG.nu8 (by omega) ?_ | refine IntG.nu32 (by omega) ?_ | refine IntG.nu64 (by omega) ?_ | refine IntG.wr' rfl ?_ | refine Chk.mk (by omega) ?_ | (refine BrG.id ?_; first | with_reducible refine BrG.t ?_ | with_reducible refine BrG.f ?_ | with_reducible refine BrG.notG ?_ | with_reducible refine BrG.nn ?_ | with_reducible refine BrG.ns ?_ | refine BrG.pos (by omega) ?_ | refine BrG.neg (by omega) ?_ | with_reducible refine BrG.pos rfl ?_ | refine BrG.pos (by assumption) ?_ | refine BrG.neg (by assumption) ?_) | refine Chk.mk (ptr_ok tblOk rfl rfl) ?_)
  refine hS.al ?_
  intro wb w2 _ hS
  repeat (first | refine SemW.run tblOk ?_ | refine IntG.nw (by omega) ?_ | refine IntG.nu8 (by omega) ?_ | refine IntG.nu32 (by omega) ?_ | refine IntG.nu64 (by omega) ?_ | refine IntG.wr' rfl ?_ | refine Chk.mk (by omega) ?_ | (refine BrG.id ?_; first | with_reducible refine BrG.t ?_ | with_reducible refine BrG.f ?_ | with_reducible refine BrG.notG ?_ | with_reducible refine BrG.nn ?_ | with_reducible refine BrG.ns ?_ | refine BrG.pos (by omega) ?_ | refine BrG.neg (by omega) ?_ | with_reducible refine BrG.pos rfl ?_ | refine BrG.pos (by assumption) ?_ | refine BrG.neg (by assumption) ?_) | refine Chk.mk (ptr_ok tblOk rfl rfl) ?_)
  refine hS.al ?_
  intro rb w3 _ hS
  repeat (first | refine SemW.run tblOk ?_ | refine IntG.nw (by omega) ?_ | refine IntG.nu8 (by omega) ?_ | refine IntG.nu32 (by omega) ?_ | refine IntG.nu64 (by omega) ?_ | refine IntG.wr' rfl ?_ | refine Chk.mk (by omega) ?_ | (refine BrG.id ?_; first | with_reducible refine BrG.t ?_ | with_reducible refine BrG.f ?_ | with_reducible refine BrG.notG ?_ | with_reducible refine BrG.nn ?_ | with_reducible refine BrG.ns ?_ | refine BrG.pos (by omega) ?_ | refine BrG.neg (by omega) ?_ | with_reducible refine BrG.pos rfl ?_ | refine BrG.pos (by assumption) ?_ | refine BrG.neg (by assumption) ?_) | refine Chk.mk (ptr_ok tblOk rfl rfl) ?_)
  refine hS.ldn rfl ?_
  repeat (first | refine SemW.run tblOk ?_ | refine IntG.nw (by omega) ?_ | refine IntG.nu8 (by omega) ?_ | refine IntG.nu32 (by omega) ?_ | refine IntG.nu64 (by omega) ?_ | refine IntG.wr' rfl ?_ | refine Chk.mk (by omega) ?_ | (refine BrG.id ?_; first | with_reducible refine BrG.t ?_ | with_reducible refine BrG.f ?_ | with_reducible refine BrG.notG ?_ | with_reducible refine BrG.nn ?_ | with_reducible refine BrG.ns ?_ | refine BrG.pos (by omega) ?_ | refine BrG.neg (by omega) ?_ | with_reducible refine BrG.pos rfl ?_ | refine BrG.pos (by assumption) ?_ | refine BrG.neg (by assumption) ?_) | refine Chk.mk (ptr_ok tblOk rfl rfl) ?_)
  refine hS.al ?_
  intro vb w4 _ hS
  repeat (first | refine SemW.run tblOk ?_ | refine IntG.nw (by omega) ?_ | refine IntG.nu8 (by omega) ?_ | refine IntG.nu32 (by omega) ?_ | refine IntG.nu64 (by omega) ?_ | refine IntG.wr' rfl ?_ | refine Chk.mk (by omega) ?_ | (refine BrG.id ?_; first | with_reducible refine BrG.t ?_ | with_reducible refine BrG.f ?_ | with_reducible refine BrG.notG ?_ | with_reducible refine BrG.nn ?_ | with_reducible refine BrG.ns ?_ | refine BrG.pos (by omega) ?_ | refine BrG.neg (by omega) ?_ | with_reducible refine BrG.pos rfl ?_ | refine BrG.pos (by assumption) ?_ | refine BrG.neg (by assumption) ?_) | refine Chk.mk (ptr_ok tblOk rfl rfl) ?_ | refine hS.ld rfl ?_ | refine hS.ldn rfl ?_ | (refine hS.st rfl rfl ?_; intro _ hS))
  have hS : St w [] ((vb, .cells ⟨(rounds [h0, h1, h2, h3, h4, h5, h6, h7] W 0).map u32V⟩ T_8_uint32 (0, 0)) :: (rb, .cells ⟨[u32V 0, u32V 0, u32V 0, u32V 0, u32V 0, u32V 0, u32V 0, u32V 0]⟩ T_8_uint32 (0, 0)) :: (wb, .cells ⟨W.map u32V⟩ T_64_uint32 (0, 0)) :: (hb, .cells ⟨[h0, h1, h2, h3, h4, h5, h6, h7].map u32V⟩ T_8_uint32 (0, 0)) :: []) _ := hS
  generalize hHH : [h0, h1, h2, h3, h4, h5, h6, h7] = h at hS hlen hlt ⊢
  refine SemW.loop (fun n : Nat => [(2, ptr hb), (3, ptr wb), (4, ptr rb), (5, ptr vb), (6, .int .i64 n)])
    (fun n w' => n ≤ 64 ∧ St w [] ((vb, .cells ⟨(rounds h W n).map u32V⟩ T_8_uint32 (0, 0)) :: (rb, .cells ⟨[u32V 0, u32V 0, u32V 0, u32V 0, u32V 0, u32V 0, u32V 0, u32V 0]⟩ T_8_uint32 (0, 0)) :: (wb, .cells ⟨W.map u32V⟩ T_64_uint32 (0, 0)) :: (hb, .cells ⟨h.map u32V⟩ T_8_uint32 (0, 0)) :: []) w') (fun n => 64 - n) 0
    ⟨rfl, rfl, rfl, rfl, rfl, trivial⟩ ⟨Nat.zero_le _, hS⟩ ?_
  rintro n w7 ⟨hn, hS⟩
  have hrl := rounds_len h W hlen n
  have hrt := rounds_lt h W hlt n
  by_cases hnl : n < 64
  · have hr1 : rounds h W (n + 1) = roundM (rounds h W n) (kList.getD n 0) (W.getD n 0) := rfl
    have gw : (W.map u32V)[n]? = some (u32V (W.getD n 0)) := by simp [show n < W.length by omega]
    have hkl := k_lt n
    have hwl2 := getD_lt W hwt n
    have hkE := fun w => kE_spec (w := w) n hnl
    generalize kList.getD n 0 = kn at hkE hkl hr1
    generalize W.getD n 0 = wn at gw hwl2 hr1
    generalize rounds h W n = v at hS hrl hrt hr1
    obtain ⟨A, Bv, C, D, E, F, G, Hh, rfl⟩ := eight v hrl
    have hA : A < 4294967296 := hrt A (by simp)
    have hB : Bv < 4294967296 := hrt Bv (by simp)
    have hC : C < 4294967296 := hrt C (by simp)
    have hE : E < 4294967296 := hrt E (by simp)
    have hF : F < 4294967296 := hrt F (by simp)
    have hG : G < 4294967296 := hrt G (by simp)
    have hH : Hh < 4294967296 := hrt Hh (by simp)
    have hS : St w [] ((vb, .cells ⟨[u32V A, u32V Bv, u32V C, u32V D, u32V E, u32V F, u32V G, u32V Hh]⟩ T_8_uint32 (0, 0)) :: (rb, .cells ⟨[u32V 0, u32V 0, u32V 0, u32V 0, u32V 0, u32V 0, u32V 0, u32V 0]⟩ T_8_uint32 (0, 0)) :: (wb, .cells ⟨W.map u32V⟩ T_64_uint32 (0, 0)) :: (hb, .cells ⟨h.map u32V⟩ T_8_uint32 (0, 0)) :: []) w7 := hS
    repeat (first | refine SemW.run tblOk ?_ | refine IntG.nw (by omega) ?_ | refine IntG.nu8 (by omega) ?_ | refine IntG.nu32 (by omega) ?_ | refine IntG.nu64 (by omega) ?_ | refine IntG.wr' rfl ?_ | refine Chk.mk (by omega) ?_ | (refine BrG.id ?_; first | with_reducible refine BrG.t ?_ | with_reducible refine BrG.f ?_ | with_reducible refine BrG.notG ?_ | with_reducible refine BrG.nn ?_ | with_reducible refine BrG.ns ?_ | refine BrG.pos (by omega) ?_ | refine BrG.neg (by omega) ?_ | with_reducible refine BrG.pos rfl ?_ | refine BrG.pos (by assumption) ?_ | refine BrG.neg (by assumption) ?_) | refine Chk.mk (ptr_ok tblOk rfl rfl) ?_)
    refine SemW.draw tblOk mixed (fun w' => St w [] ((vb, .cells ⟨[u32V A, u32V Bv, u32V C, u32V D, u32V E, u32V F, u32V G, u32V Hh]⟩ T_8_uint32 (0, 0)) :: (rb, .cells ⟨[u32V 0, u32V 0, u32V 0, u32V 0, u32V 0, u32V 0, u32V 0, u32V 0]⟩ T_8_uint32 (0, 0)) :: (wb, .cells ⟨W.map u32V⟩ T_64_uint32 (0, 0)) :: (hb, .cells ⟨h.map u32V⟩ T_8_uint32 (0, 0)) :: []) w') [] [0, 1, 2, 3, 4, 5, 6, 7, 8, 9, 10, 11, 12, 13, 14, 15, 16, 17] (by kernel_rfl) hS.drew ?_
    have hS := hS.drew
    repeat (first | refine SemW.run tblOk ?_ | refine IntG.nw (by omega) ?_ | refine IntG.nu8 (by omega) ?_ | refine IntG.nu32 (by omega) ?_ | refine IntG.nu64 (by omega) ?_ | refine IntG.wr' rfl ?_ | refine Chk.mk (by omega) ?_ | (refine BrG.id ?_; first | with_reducible refine BrG.t ?_ | with_reducible refine BrG.f ?_ | with_reducible refine BrG.notG ?_ | with_reducible refine BrG.nn ?_ | with_reducible refine BrG.ns ?_ | refine BrG.pos (by omega) ?_ | refine BrG.neg (by omega) ?_ | with_reducible refine BrG.pos rfl ?_ | refine BrG.pos (by assumption) ?_ | refine BrG.neg (by assumption) ?_) | refine Chk.mk (ptr_ok tblOk rfl rfl) ?_ | refine hS.ldC rfl ?_ | refine hS.ldnC rfl ?_)
    refine SemW.draw tblOk mixed (fun w' => St w [] ((vb, .cells ⟨[u32V A, u32V Bv, u32V C, u32V D, u32V E, u32V F, u32V G, u32V Hh]⟩ T_8_uint32 (0, 0)) :: (rb, .cells ⟨[u32V 0, u32V 0, u32V 0, u32V 0, u32V 0, u32V 0, u32V 0, u32V 0]⟩ T_8_uint32 (0, 0)) :: (wb, .cells ⟨W.map u32V⟩ T_64_uint32 (0, 0)) :: (hb, .cells ⟨h.map u32V⟩ T_8_uint32 (0, 0)) :: []) w') [] [0, 1, 2, 4, 7, 11, 12, 13, 14, 15, 16, 17, 18, 20, 23, 24, 25, 3, 5, 6, 8, 9, 10, 19, 21, 22, 26, 27] (by kernel_rfl) hS.drew ?_
    have hS := hS.drew
    repeat (first | refine SemW.run tblOk ?_ | refine IntG.nw (by omega) ?_ | refine IntG.nu8 (by omega) ?_ | refine IntG.nu32 (by omega) ?_ | refine IntG.nu64 (by omega) ?_ | refine IntG.wr' rfl ?_ | refine Chk.mk (by omega) ?_ | (refine BrG.id ?_; first | with_reducible refine BrG.t ?_ | with_reducible refine BrG.f ?_ | with_reducible refine BrG.notG ?_ | with_reducible refine BrG.nn ?_ | with_reducible refine BrG.ns ?_ | refine BrG.pos (by omega) ?_ | refine BrG.neg (by omega) ?_ | with_reducible refine BrG.pos rfl ?_ | refine BrG.pos (by assumption) ?_ | refine BrG.neg (by assumption) ?_) | refine Chk.mk (ptr_ok tblOk rfl rfl) ?_ | refine hS.ldC rfl ?_ | refine hS.ldnC rfl ?_)
    refine hS.ldC (v := u32V wn) (by rw [← gw]; congr 1; omega) ?_
    repeat (first | refine SemW.run tblOk ?_ | refine IntG.nw (by omega) ?_ | refine IntG.nu8 (by omega) ?_ | refine IntG.nu32 (by omega) ?_ | refine IntG.nu64 (by omega) ?_ | refine IntG.wr' rfl ?_ | refine Chk.mk (by omega) ?_ | (refine BrG.id ?_; first | with_reducible refine BrG.t ?_ | with_reducible refine BrG.f ?_ | with_reducible refine BrG.notG ?_ | with_reducible refine BrG.nn ?_ | with_reducible refine BrG.ns ?_ | refine BrG.pos (by omega) ?_ | refine BrG.neg (by omega) ?_ | with_reducible refine BrG.pos rfl ?_ | refine BrG.pos (by assumption) ?_ | refine BrG.neg (by assumption) ?_) | refine Chk.mk (ptr_ok tblOk rfl rfl) ?_ | refine hS.ldC rfl ?_ | refine hS.ldnC rfl ?_)
    refine Cl.mono (turnE_spec E 6 hE (by omega)) ?_
    rintro _ _ ⟨rfl, hS'⟩
    have hS := hS.call0 hS'
    refine Chk.mk hS ?_
    repeat (first | refine SemW.run tblOk ?_ | refine IntG.nw (by omega) ?_ | refine IntG.nu8 (by omega) ?_ | refine IntG.nu32 (by omega) ?_ | refine IntG.nu64 (by omega) ?_ | refine IntG.wr' rfl ?_ | refine Chk.mk (by omega) ?_ | (refine BrG.id ?_; first | with_reducible refine BrG.t ?_ | with_reducible refine BrG.f ?_ | with_reducible refine BrG.notG ?_ | with_reducible refine BrG.nn ?_ | with_reducible refine BrG.ns ?_ | refine BrG.pos (by omega) ?_ | refine BrG.neg (by omega) ?_ | with_reducible refine BrG.pos rfl ?_ | refine BrG.pos (by assumption) ?_ | refine BrG.neg (by assumption) ?_) | refine Chk.mk (ptr_ok tblOk rfl rfl) ?_ | refine hS.ldC rfl ?_ | refine hS.ldnC rfl ?_)
    refine Cl.mono (turnE_spec E 11 hE (by omega)) ?_
    rintro _ _ ⟨rfl, hS'⟩
    have hS := hS.call0 hS'
    refine Chk.mk hS ?_
    repeat (first | refine SemW.run tblOk ?_ | refine IntG.nw (by omega) ?_ | refine IntG.nu8 (by omega) ?_ | refine IntG.nu32 (by omega) ?_ | refine IntG.nu64 (by omega) ?_ | refine IntG.wr' rfl ?_ | refine Chk.mk (by omega) ?_ | (refine BrG.id ?_; first | with_reducible refine BrG.t ?_ | with_reducible refine BrG.f ?_ | with_reducible refine BrG.notG ?_ | with_reducible refine BrG.nn ?_ | with_reducible refine BrG.ns ?_ | refine BrG.pos (by omega) ?_ | refine BrG.neg (by omega) ?_ | with_reducible refine BrG.pos rfl ?_ | refine BrG.pos (by assumption) ?_ | refine BrG.neg (by assumption) ?_) | refine Chk.mk (ptr_ok tblOk rfl rfl) ?_ | refine hS.ldC rfl ?_ | refine hS.ldnC rfl ?_)
    refine Cl.mono (turnE_spec E 25 hE (by omega)) ?_
    rintro _ _ ⟨rfl, hS'⟩
    have hS := hS.call0 hS'
    refine Chk.mk hS ?_
    repeat (first | refine SemW.run tblOk ?_ | refine IntG.nw (by omega) ?_ | refine IntG.nu8 (by omega) ?_ | refine IntG.nu32 (by omega) ?_ | refine IntG.nu64 (by omega) ?_ | refine IntG.wr' rfl ?_ | refine Chk.mk (by omega) ?_ | (refine BrG.id ?_; first | with_reducible refine BrG.t ?_ | with_reducible refine BrG.f ?_ | with_reducible refine BrG.notG ?_ | with_reducible refine BrG.nn ?_ | with_reducible refine BrG.ns ?_ | refine BrG.pos (by omega) ?_ | refine BrG.neg (by omega) ?_ | with_reducible refine BrG.pos rfl ?_ | refine BrG.pos (by assumption) ?_ | refine BrG.neg (by assumption) ?_) | refine Chk.mk (ptr_ok tblOk rfl rfl) ?_ | refine hS.ldC rfl ?_ | refine hS.ldnC rfl ?_)
    refine Cl.mono (hkE _) ?_
    rintro _ _ ⟨rfl, hS'⟩
    have hS := hS.call0 hS'
    refine Chk.mk hS ?_
    repeat (first | refine SemW.run tblOk ?_ | refine IntG.nw (by omega) ?_ | refine IntG.nu8 (by omega) ?_ | refine IntG.nu32 (by omega) ?_ | refine IntG.nu64 (by omega) ?_ | refine IntG.wr' rfl ?_ | refine Chk.mk (by omega) ?_ | (refine BrG.id ?_; first | with_reducible refine BrG.t ?_ | with_reducible refine BrG.f ?_ | with_reducible refine BrG.notG ?_ | with_reducible refine BrG.nn ?_ | with_reducible refine BrG.ns ?_ | refine BrG.pos (by omega) ?_ | refine BrG.neg (by omega) ?_ | with_reducible refine BrG.pos rfl ?_ | refine BrG.pos (by assumption) ?_ | refine BrG.neg (by assumption) ?_) | refine Chk.mk (ptr_ok tblOk rfl rfl) ?_ | refine hS.ldC rfl ?_ | refine hS.ldnC rfl ?_)
    refine Cl.mono (turnE_spec A 2 hA (by omega)) ?_
    rintro _ _ ⟨rfl, hS'⟩
    have hS := hS.call0 hS'
    repeat (first | refine SemW.run tblOk ?_ | refine IntG.nw (by omega) ?_ | refine IntG.nu8 (by omega) ?_ | refine IntG.nu32 (by omega) ?_ | refine IntG.nu64 (by omega) ?_ | refine IntG.wr' rfl ?_ | refine Chk.mk (by omega) ?_ | (refine BrG.id ?_; first | with_reducible refine BrG.t ?_ | with_reducible refine BrG.f ?_ | with_reducible refine BrG.notG ?_ | with_reducible refine BrG.nn ?_ | with_reducible refine BrG.ns ?_ | refine BrG.pos (by omega) ?_ | refine BrG.neg (by omega) ?_ | with_reducible refine BrG.pos rfl ?_ | refine BrG.pos (by assumption) ?_ | refine BrG.neg (by assumption) ?_) | refine Chk.mk (ptr_ok tblOk rfl rfl) ?_)
    refine Cl.mono (turnE_spec A 13 hA (by omega)) ?_
    rintro _ _ ⟨rfl, hS'⟩
    have hS := hS.call0 hS'
    repeat (first | refine SemW.run tblOk ?_ | refine IntG.nw (by omega) ?_ | refine IntG.nu8 (by omega) ?_ | refine IntG.nu32 (by omega) ?_ | refine IntG.nu64 (by omega) ?_ | refine IntG.wr' rfl ?_ | refine Chk.mk (by omega) ?_ | (refine BrG.id ?_; first | with_reducible refine BrG.t ?_ | with_reducible refine BrG.f ?_ | with_reducible refine BrG.notG ?_ | with_reducible refine BrG.nn ?_ | with_reducible refine BrG.ns ?_ | refine BrG.pos (by omega) ?_ | refine BrG.neg (by omega) ?_ | with_reducible refine BrG.pos rfl ?_ | refine BrG.pos (by assumption) ?_ | refine BrG.neg (by assumption) ?_) | refine Chk.mk (ptr_ok tblOk rfl rfl) ?_)
    refine Cl.mono (turnE_spec A 22 hA (by omega)) ?_
    rintro _ _ ⟨rfl, hS'⟩
    have hS := hS.call0 hS'
    repeat (first | refine SemW.run tblOk ?_ | refine IntG.nw (by omega) ?_ | refine IntG.nu8 (by omega) ?_ | refine IntG.nu32 (by omega) ?_ | refine IntG.nu64 (by omega) ?_ | refine IntG.wr' rfl ?_ | refine Chk.mk (by omega) ?_ | (refine BrG.id ?_; first | with_reducible refine BrG.t ?_ | with_reducible refine BrG.f ?_ | with_reducible refine BrG.notG ?_ | with_reducible refine BrG.nn ?_ | with_reducible refine BrG.ns ?_ | refine BrG.pos (by omega) ?_ | refine BrG.neg (by omega) ?_ | with_reducible refine BrG.pos rfl ?_ | refine BrG.pos (by assumption) ?_ | refine BrG.neg (by assumption) ?_) | refine Chk.mk (ptr_ok tblOk rfl rfl) ?_)
    repeat (first | refine SemW.run tblOk ?_ | refine IntG.nw (by omega) ?_ | refine IntG.nu8 (by omega) ?_ | refine IntG.nu32 (by omega) ?_ | refine IntG.nu64 (by omega) ?_ | refine IntG.wr' rfl ?_ | refine Chk.mk (by omega) ?_ | (refine BrG.id ?_; first | with_reducible refine BrG.t ?_ | with_reducible refine BrG.f ?_ | with_reducible refine BrG.notG ?_ | with_reducible refine BrG.nn ?_ | with_reducible refine BrG.ns ?_ | refine BrG.pos (by omega) ?_ | refine BrG.neg (by omega) ?_ | with_reducible refine BrG.pos rfl ?_ | refine BrG.pos (by assumption) ?_ | refine BrG.neg (by assumption) ?_) | refine Chk.mk (ptr_ok tblOk rfl rfl) ?_ | refine hS.ld rfl ?_ | refine hS.ldn rfl ?_ | (refine hS.st rfl rfl ?_; intro _ hS))
    have hx6 := xor3 (rotr 6 E) (rotr 11 E) (rotr 25 E) (rotr_lt' 6 E hE (by omega)) (rotr_lt' 11 E hE (by omega)) (rotr_lt' 25 E hE (by omega))
    have hx2 := xor3 (rotr 2 A) (rotr 13 A) (rotr 22 A) (rotr_lt' 2 A hA (by omega)) (rotr_lt' 13 A hA (by omega)) (rotr_lt' 22 A hA (by omega))
    have hT1 : IntKind.u32.wrap (IntKind.u32.wrap (IntKind.u32.wrap (IntKind.u32.wrap ((Hh : Int) + xorI .u32 (xorI .u32 (rotr 6 E : Int) (rotr 11 E : Int)) (rotr 25 E : Int)) + xorI .u32 (andI .u32 (E : Int) (F : Int)) (andI .u32 (xorI .u32 4294967295 (E : Int)) (G : Int))) + (kn : Int)) + (wn : Int)) = ((t1M [A, Bv, C, D, E, F, G, Hh] kn wn : Nat) : Int) := by
      rw [hx6, t1_eq Hh (rotr 6 E ^^^ rotr 11 E ^^^ rotr 25 E) E F G kn wn hH hE hF hG]; rfl
    have hT2 : IntKind.u32.wrap (xorI .u32 (xorI .u32 (rotr 2 A : Int) (rotr 13 A : Int)) (rotr 22 A : Int) + xorI .u32 (xorI .u32 (andI .u32 (A : Int) (Bv : Int)) (andI .u32 (A : Int) (C : Int))) (andI .u32 (Bv : Int) (C : Int))) = ((t2M [A, Bv, C, D, E, F, G, Hh] : Nat) : Int) := by
      rw [hx2, t2_eq (rotr 2 A ^^^ rotr 13 A ^^^ rotr 22 A) A Bv C hA hB hC]; rfl
    have q1 : u32V ((t1M [A, Bv, C, D, E, F, G, Hh] kn wn + t2M [A, Bv, C, D, E, F, G, Hh]) % p32) = Value.int .u32 (IntKind.u32.wrap (IntKind.u32.wrap (IntKind.u32.wrap (IntKind.u32.wrap (IntKind.u32.wrap ((Hh : Int) + xorI .u32 (xorI .u32 (rotr 6 E : Int) (rotr 11 E : Int)) (rotr 25 E : Int)) + xorI .u32 (andI .u32 (E : Int) (F : Int)) (andI .u32 (xorI .u32 4294967295 (E : Int)) (G : Int))) + (kn : Int)) + (wn : Int)) + IntKind.u32.wrap (xorI .u32 (xorI .u32 (rotr 2 A : Int) (rotr 13 A : Int)) (rotr 22 A : Int) + xorI .u32 (xorI .u32 (andI .u32 (A : Int) (Bv : Int)) (andI .u32 (A : Int) (C : Int))) (andI .u32 (Bv : Int) (C : Int))))) := by
      rw [hT1, hT2, wadd]; rfl
    have q2 : u32V ((D + t1M [A, Bv, C, D, E, F, G, Hh] kn wn) % p32) = Value.int .u32 (IntKind.u32.wrap ((D : Int) + IntKind.u32.wrap (IntKind.u32.wrap (IntKind.u32.wrap (IntKind.u32.wrap ((Hh : Int) + xorI .u32 (xorI .u32 (rotr 6 E : Int) (rotr 11 E : Int)) (rotr 25 E : Int)) + xorI .u32 (andI .u32 (E : Int) (F : Int)) (andI .u32 (xorI .u32 4294967295 (E : Int)) (G : Int))) + (kn : Int)) + (wn : Int)))) := by
      rw [hT1, wadd]; rfl
    refine ⟨n + 1, ⟨rfl, rfl, rfl, rfl, rfl, trivial⟩, ⟨by omega, ?_⟩, by omega⟩
    rw [hr1]
    show St w [] ((vb, .cells ⟨[u32V ((t1M [A, Bv, C, D, E, F, G, Hh] kn wn + t2M [A, Bv, C, D, E, F, G, Hh]) % p32), u32V A, u32V Bv, u32V C, u32V ((D + t1M [A, Bv, C, D, E, F, G, Hh] kn wn) % p32), u32V E, u32V F, u32V G]⟩ T_8_uint32 (0, 0)) :: (rb, .cells ⟨[u32V 0, u32V 0, u32V 0, u32V 0, u32V 0, u32V 0, u32V 0, u32V 0]⟩ T_8_uint32 (0, 0)) :: (wb, .cells ⟨W.map u32V⟩ T_64_uint32 (0, 0)) :: (hb, .cells ⟨h.map u32V⟩ T_8_uint32 (0, 0)) :: []) _
    rw [q1, q2]
    exact hS
  have hn64 : n = 64 := by omega
  subst hn64
  generalize rounds h W 64 = v at hS hrl hrt ⊢
  obtain ⟨A, Bv, C, D, E, F, G, Hh, rfl⟩ := eight v hrl
  have hp0 : hp h [A, Bv, C, D, E, F, G, Hh] 0 = h := by rw [← hHH]; rfl
  have hp8 : hp h [A, Bv, C, D, E, F, G, Hh] 8 = addM h [A, Bv, C, D, E, F, G, Hh] := by rw [← hHH]; rfl
  have hS : St w [] ((vb, .cells ⟨[u32V A, u32V Bv, u32V C, u32V D, u32V E, u32V F, u32V G, u32V Hh]⟩ T_8_uint32 (0, 0)) :: (rb, .cells ⟨[u32V 0, u32V 0, u32V 0, u32V 0, u32V 0, u32V 0, u32V 0, u32V 0]⟩ T_8_uint32 (0, 0)) :: (wb, .cells ⟨W.map u32V⟩ T_64_uint32 (0, 0)) :: (hb, .cells ⟨(hp h [A, Bv, C, D, E, F, G, Hh] 0).map u32V ++ []⟩ T_8_uint32 (0, 0)) :: []) w7 := by rw [hp0, List.append_nil]; exact hS
  repeat (first | refine SemW.run tblOk ?_ | refine IntG.nw (by omega) ?_ | refine IntG.nu8 (by omega) ?_ | refine IntG.nu32 (by omega) ?_ | refine IntG.nu64 (by omega) ?_ | refine IntG.wr' rfl ?_ | refine Chk.mk (by omega) ?_ | (refine BrG.id ?_; first | with_reducible refine BrG.t ?_ | with_reducible refine BrG.f ?_ | with_reducible refine BrG.notG ?_ | with_reducible refine BrG.nn ?_ | with_reducible refine BrG.ns ?_ | refine BrG.pos (by omega) ?_ | refine BrG.neg (by omega) ?_ | with_reducible refine BrG.pos rfl ?_ | refine BrG.pos (by assumption) ?_ | refine BrG.neg (by assumption) ?_) | refine Chk.mk (ptr_ok tblOk rfl rfl) ?_ | refine hS.ld rfl ?_ | refine hS.ldn rfl ?_ | (refine hS.st rfl rfl ?_; intro _ hS))
  refine SemW.loop (fun n : Nat => [(2, ptr hb), (4, ptr rb), (5, ptr vb), (94, .int .i64 n)])
    (fun n w' => n ≤ 8 ∧ St w [] ((vb, .cells ⟨[u32V A, u32V Bv, u32V C, u32V D, u32V E, u32V F, u32V G, u32V Hh]⟩ T_8_uint32 (0, 0)) :: (rb, .cells ⟨[u32V 0, u32V 0, u32V 0, u32V 0, u32V 0, u32V 0, u32V 0, u32V 0]⟩ T_8_uint32 (0, 0)) :: (wb, .cells ⟨W.map u32V⟩ T_64_uint32 (0, 0)) :: (hb, .cells ⟨(hp h [A, Bv, C, D, E, F, G, Hh] n).map u32V ++ []⟩ T_8_uint32 (0, 0)) :: []) w') (fun n => 8 - n) 0
    ⟨rfl, rfl, rfl, rfl, trivial⟩ ⟨Nat.zero_le _, hS⟩ ?_
  rintro n w8 ⟨hn, hS⟩
  by_cases hnl : n < 8
  · have gv : ([u32V A, u32V Bv, u32V C, u32V D, u32V E, u32V F, u32V G, u32V Hh] : List Value)[n]? = some (u32V ([A, Bv, C, D, E, F, G, Hh].getD n 0)) := by
      match n, hnl with
      | 0, _ => rfl
      | 1, _ => rfl
      | 2, _ => rfl
      | 3, _ => rfl
      | 4, _ => rfl
      | 5, _ => rfl
      | 6, _ => rfl
      | 7, _ => rfl
    have gh := hp_get h [A, Bv, C, D, E, F, G, Hh] n hnl []
    have gs := hp_set h [A, Bv, C, D, E, F, G, Hh] n hnl []
    generalize [A, Bv, C, D, E, F, G, Hh].getD n 0 = vn at gv gs
    generalize h.getD n 0 = hn0 at gh gs
    repeat (first | refine SemW.run tblOk ?_ | refine IntG.nw (by omega) ?_ | refine IntG.nu8 (by omega) ?_ | refine IntG.nu32 (by omega) ?_ | refine IntG.nu64 (by omega) ?_ | refine IntG.wr' rfl ?_ | refine Chk.mk (by omega) ?_ | (refine BrG.id ?_; first | with_reducible refine BrG.t ?_ | with_reducible refine BrG.f ?_ | with_reducible refine BrG.notG ?_ | with_reducible refine BrG.nn ?_ | with_reducible refine BrG.ns ?_ | refine BrG.pos (by omega) ?_ | refine BrG.neg (by omega) ?_ | with_reducible refine BrG.pos rfl ?_ | refine BrG.pos (by assumption) ?_ | refine BrG.neg (by assumption) ?_) | refine Chk.mk (ptr_ok tblOk rfl rfl) ?_)
    refine SemW.draw tblOk mixed (fun w' => St w [] ((vb, .cells ⟨[u32V A, u32V Bv, u32V C, u32V D, u32V E, u32V F, u32V G, u32V Hh]⟩ T_8_uint32 (0, 0)) :: (rb, .cells ⟨[u32V 0, u32V 0, u32V 0, u32V 0, u32V 0, u32V 0, u32V 0, u32V 0]⟩ T_8_uint32 (0, 0)) :: (wb, .cells ⟨W.map u32V⟩ T_64_uint32 (0, 0)) :: (hb, .cells ⟨(hp h [A, Bv, C, D, E, F, G, Hh] n).map u32V ++ []⟩ T_8_uint32 (0, 0)) :: []) w') [8] [0, 1, 2, 3, 4, 5, 6, 7, 8] (by kernel_rfl) hS.drew ?_
    have hS := hS.drew
    repeat (first | refine SemW.run tblOk ?_ | refine IntG.nw (by omega) ?_ | refine IntG.nu8 (by omega) ?_ | refine IntG.nu32 (by omega) ?_ | refine IntG.nu64 (by omega) ?_ | refine IntG.wr' rfl ?_ | refine Chk.mk (by omega) ?_ | (refine BrG.id ?_; first | with_reducible refine BrG.t ?_ | with_reducible refine BrG.f ?_ | with_reducible refine BrG.notG ?_ | with_reducible refine BrG.nn ?_ | with_reducible refine BrG.ns ?_ | refine BrG.pos (by omega) ?_ | refine BrG.neg (by omega) ?_ | with_reducible refine BrG.pos rfl ?_ | refine BrG.pos (by assumption) ?_ | refine BrG.neg (by assumption) ?_) | refine Chk.mk (ptr_ok tblOk rfl rfl) ?_ | refine hS.ldC rfl ?_ | refine hS.ldnC rfl ?_)
    refine hS.ldC (v := u32V hn0) (by rw [← gh]; congr 1; omega) ?_
    repeat (first | refine SemW.run tblOk ?_ | refine IntG.nw (by omega) ?_ | refine IntG.nu8 (by omega) ?_ | refine IntG.nu32 (by omega) ?_ | refine IntG.nu64 (by omega) ?_ | refine IntG.wr' rfl ?_ | refine Chk.mk (by omega) ?_ | (refine BrG.id ?_; first | with_reducible refine BrG.t ?_ | with_reducible refine BrG.f ?_ | with_reducible refine BrG.notG ?_ | with_reducible refine BrG.nn ?_ | with_reducible refine BrG.ns ?_ | refine BrG.pos (by omega) ?_ | refine BrG.neg (by omega) ?_ | with_reducible refine BrG.pos rfl ?_ | refine BrG.pos (by assumption) ?_ | refine BrG.neg (by assumption) ?_) | refine Chk.mk (ptr_ok tblOk rfl rfl) ?_ | refine hS.ldC rfl ?_ | refine hS.ldnC rfl ?_)
    refine hS.ldC (v := u32V vn) (by rw [← gv]; congr 1; omega) ?_
    repeat (first | refine SemW.run tblOk ?_ | refine IntG.nw (by omega) ?_ | refine IntG.nu8 (by omega) ?_ | refine IntG.nu32 (by omega) ?_ | refine IntG.nu64 (by omega) ?_ | refine IntG.wr' rfl ?_ | refine Chk.mk (by omega) ?_ | (refine BrG.id ?_; first | with_reducible refine BrG.t ?_ | with_reducible refine BrG.f ?_ | with_reducible refine BrG.notG ?_ | with_reducible refine BrG.nn ?_ | with_reducible refine BrG.ns ?_ | refine BrG.pos (by omega) ?_ | refine BrG.neg (by omega) ?_ | with_reducible refine BrG.pos rfl ?_ | refine BrG.pos (by assumption) ?_ | refine BrG.neg (by assumption) ?_) | refine Chk.mk (ptr_ok tblOk rfl rfl) ?_ | refine hS.ldC rfl ?_ | refine hS.ldnC rfl ?_)
    refine hS.stI rfl (by simp [hp]; omega) ?_
    intro w9 hS
    repeat (first | refine SemW.run tblOk ?_ | refine IntG.nw (by omega) ?_ | refine IntG.nu8 (by omega) ?_ | refine IntG.nu32 (by omega) ?_ | refine IntG.nu64 (by omega) ?_ | refine IntG.wr' rfl ?_ | refine Chk.mk (by omega) ?_ | (refine BrG.id ?_; first | with_reducible refine BrG.t ?_ | with_reducible refine BrG.f ?_ | with_reducible refine BrG.notG ?_ | with_reducible refine BrG.nn ?_ | with_reducible refine BrG.ns ?_ | refine BrG.pos (by omega) ?_ | refine BrG.neg (by omega) ?_ | with_reducible refine BrG.pos rfl ?_ | refine BrG.pos (by assumption) ?_ | refine BrG.neg (by assumption) ?_) | refine Chk.mk (ptr_ok tblOk rfl rfl) ?_ | refine hS.ldC rfl ?_ | refine hS.ldnC rfl ?_)
    refine ⟨n + 1, ⟨rfl, rfl, rfl, rfl, trivial⟩, ⟨by omega, ?_⟩, by omega⟩
    rw [← gs]
    have q3 : u32V ((hn0 + vn) % p32) = Value.int .u32 (IntKind.u32.wrap ((hn0 : Int) + (vn : Int))) := by rw [wadd]; rfl
    rw [q3]
    have e0 : 0 + ((n : Int)).toNat * 1 = n := by omega
    rw [e0] at hS
    exact hS
  have hn8 : n = 8 := by omega
  subst hn8
  rw [hp8, List.append_nil] at hS
  have hal : (addM h [A, Bv, C, D, E, F, G, Hh]).length = 8 := by simp [addM]
  generalize addM h [A, Bv, C, D, E, F, G, Hh] = z at hS hal ⊢
  obtain ⟨z0, z1, z2, z3, z4, z5, z6, z7, rfl⟩ := eight z hal
  repeat (first | refine SemW.run tblOk ?_ | refine IntG.nw (by omega) ?_ | refine IntG.nu8 (by omega) ?_ | refine IntG.nu32 (by omega) ?_ | refine IntG.nu64 (by omega) ?_ | refine IntG.wr' rfl ?_ | refine Chk.mk (by omega) ?_ | (refine BrG.id ?_; first | with_reducible refine BrG.t ?_ | with_reducible refine BrG.f ?_ | with_reducible refine BrG.notG ?_ | with_reducible refine BrG.nn ?_ | with_reducible refine BrG.ns ?_ | refine BrG.pos (by omega) ?_ | refine BrG.neg (by omega) ?_ | with_reducible refine BrG.pos rfl ?_ | refine BrG.pos (by assumption) ?_ | refine BrG.neg (by assumption) ?_) | refine Chk.mk (ptr_ok tblOk rfl rfl) ?_ | refine hS.ld rfl ?_ | refine hS.ldn rfl ?_ | (refine hS.st rfl rfl ?_; intro _ hS))
  exact ⟨rfl, hS.nil⟩
end Go.Proofs.YtklppplnkpnbhaaDoor
