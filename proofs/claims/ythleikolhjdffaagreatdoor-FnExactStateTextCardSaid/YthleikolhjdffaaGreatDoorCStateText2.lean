/- Contracts of the functions that FnExactStateText reaches, by the abstract machine (part 2).
   Conditions: none. -/
import Derived.Test.YthleikolhjdffaaGreatDoorCStateText1
set_option linter.unusedVariables false
set_option linter.unusedSimpArgs false
namespace Go.Proofs.YthleikolhjdffaaGreatDoor.Ab
open Go Go.RowKit
attribute [local irreducible] Cnd Bnd Rw CallQ CallR Bts Isn Lc WLoop
set_option maxRecDepth 100000
set_option maxHeartbeats 1000000
theorem F_sText (b : Brd) (ho : b.Ok) (s : Stt) (hs : s.Ok) (h : StOk b s) : Fun E0 28 [.agg b.cs, .agg s.cs] [] (.v (vS (stT b s))) [] [] := by
  have ht := h.turn
  have hw := h.wea
  have hnu := h.gb.nums
  simp only [numsOk, Bool.and_eq_true] at hnu
  have htu := of_decide_eq_true hnu.2
  have hl := h.len
  have d1 := dgT_size ht.1 (show s.turn < 100 by omega)
  have d2 := dgT_size hw.1 (show s.wea < 100 by omega)
  have hh := hT_size ht.1 (by omega) hw.1 (by omega)
  refine Fun_of_xc k28 rfl rfl (fun k q h => by cases h) ?_
  ((conv=>whnf);repeat((first|refine Ct ‹_› ?_|refine Cf ‹_› ?_|refine Ct rfl ?_|refine Cf rfl ?_|refine Bi rfl ?_|refine Bz rfl ?_|refine Lr ?_);conv=>whnf))
  (refine CallQ_some (F_l1Num s.turn ht.1 (by omega)) ?_ ?_ ?_; rfl; rfl); ((conv=>whnf);repeat((first|refine Ct ‹_› ?_|refine Cf ‹_› ?_|refine Ct rfl ?_|refine Cf rfl ?_|refine Bi rfl ?_|refine Bz rfl ?_|refine Lr ?_);conv=>whnf))
  refine Bnd_i (bss (Nat.le_refl _) d1 rfl) ?_; ((conv=>whnf);repeat((first|refine Ct ‹_› ?_|refine Cf ‹_› ?_|refine Ct rfl ?_|refine Cf rfl ?_|refine Bi rfl ?_|refine Bz rfl ?_|refine Lr ?_);conv=>whnf))
  refine Bnd_i (bss (szA (Nat.le_refl _) d1) (Nat.le_refl _) rfl) ?_; ((conv=>whnf);repeat((first|refine Ct ‹_› ?_|refine Cf ‹_› ?_|refine Ct rfl ?_|refine Cf rfl ?_|refine Bi rfl ?_|refine Bz rfl ?_|refine Lr ?_);conv=>whnf))
  (refine CallQ_some (F_l1Num s.wea hw.1 (by omega)) ?_ ?_ ?_; rfl; rfl); ((conv=>whnf);repeat((first|refine Ct ‹_› ?_|refine Cf ‹_› ?_|refine Ct rfl ?_|refine Cf rfl ?_|refine Bi rfl ?_|refine Bz rfl ?_|refine Lr ?_);conv=>whnf))
  refine Bnd_i (bss (szA (szA (Nat.le_refl _) d1) (Nat.le_refl _)) d2 rfl) ?_; ((conv=>whnf);repeat((first|refine Ct ‹_› ?_|refine Cf ‹_› ?_|refine Ct rfl ?_|refine Cf rfl ?_|refine Bi rfl ?_|refine Bz rfl ?_|refine Lr ?_);conv=>whnf))
  refine Bnd_i (bss (szA (szA (szA (Nat.le_refl _) d1) (Nat.le_refl _)) d2) (Nat.le_refl _) rfl) ?_; ((conv=>whnf);repeat((first|refine Ct ‹_› ?_|refine Cf ‹_› ?_|refine Ct rfl ?_|refine Cf rfl ?_|refine Bi rfl ?_|refine Bz rfl ?_|refine Lr ?_);conv=>whnf))
  refine WLoop_v2 ⟨[2, 5, 20, 21, 22], [2], []⟩ (fun (t : Int) (out : ByteArray) => hdS 58 [(2, .v (.one (.box 2 0))), (5, .v (vS out)), (20, .v (.one (roU s.un))), (21, .v (vI s.un.length)), (22, .v (vI t))] [(2, b.cs)] [])
    (fun n t out => 0 ≤ t ∧ t + n = s.un.length ∧ out = usT b (hT s) (s.un.take t.toNat) ∧ out.size ≤ 20 + 20 * t.toNat) s.un.length 0 (hT s) rfl ⟨by omega, by omega, rfl, by omega⟩ ?_
  rintro n t out ⟨h1, h2, h3, h4⟩
  ((conv=>whnf);repeat((first|refine Ct ‹_› ?_|refine Cf ‹_› ?_|refine Ct rfl ?_|refine Cf rfl ?_|refine Bi rfl ?_|refine Bz rfl ?_|refine Lr ?_);conv=>whnf))
  refine Cnd_i (fun g => ?_) (fun g => ?_)
  · have ht := of_decide_eq_true g
    have hu := UnS.of h.gb (h.un _ (getD_memT (d := Unt.d) h1 ht))
    have hz := uT_size hu
    have s1 := dgT_size hu.side.1 hu.side.2
    have s2 := dgT_size hu.ste.1 hu.ste.2
    have s3 := atT_size hu.at'
    have s4 := hu.nam
    have s5 : out.size ≤ 300 := by omega
    have hnx : usT b (hT s) (s.un.take (t + 1).toNat) = out ++ uT b (s.un.getD t.toNat Unt.d) := by
      rw [show (t + 1).toNat = t.toNat + 1 by omega, usT_take _ _ _ _ (by omega), ← h3]
    ((conv=>whnf);repeat((first|refine Ct ‹_› ?_|refine Cf ‹_› ?_|refine Ct rfl ?_|refine Cf rfl ?_|refine Bi rfl ?_|refine Bz rfl ?_|refine Lr ?_);conv=>whnf))
    refine Bnd_i (⟨h1, ht⟩) ?_; ((conv=>whnf);repeat((first|refine Ct ‹_› ?_|refine Cf ‹_› ?_|refine Ct rfl ?_|refine Cf rfl ?_|refine Bi rfl ?_|refine Bz rfl ?_|refine Lr ?_);conv=>whnf))
    refine Cnd_i (fun g2 => ?_) (fun g2 => ?_)
    · have d2 := of_decide_eq_true g2
      have ea : dgT (s.un.getD t.toNat Unt.d).at' = atT (s.un.getD t.toNat Unt.d).at' := (if_neg (by omega)).symm
      ((conv=>whnf);repeat((first|refine Ct ‹_› ?_|refine Cf ‹_› ?_|refine Ct rfl ?_|refine Cf rfl ?_|refine Bi rfl ?_|refine Bz rfl ?_|refine Lr ?_);conv=>whnf))
      (refine CallQ_some (F_l1Num (s.un.getD t.toNat Unt.d).at' d2 hu.at') ?_ ?_ ?_; rfl; rfl)
      rw [ea]
      ((conv=>whnf);repeat((first|refine Ct ‹_› ?_|refine Cf ‹_› ?_|refine Ct rfl ?_|refine Cf rfl ?_|refine Bi rfl ?_|refine Bz rfl ?_|refine Lr ?_);conv=>whnf))
      (refine CallQ_some (F_l1Num (s.un.getD t.toNat Unt.d).side hu.side.1 hu.side.2) ?_ ?_ ?_; rfl; rfl); ((conv=>whnf);repeat((first|refine Ct ‹_› ?_|refine Cf ‹_› ?_|refine Ct rfl ?_|refine Cf rfl ?_|refine Bi rfl ?_|refine Bz rfl ?_|refine Lr ?_);conv=>whnf))
      refine Bnd_i (bss s1 (Nat.le_refl _) rfl) ?_; ((conv=>whnf);repeat((first|refine Ct ‹_› ?_|refine Cf ‹_› ?_|refine Ct rfl ?_|refine Cf rfl ?_|refine Bi rfl ?_|refine Bz rfl ?_|refine Lr ?_);conv=>whnf))
      refine Bnd_i (hu.kind) ?_; ((conv=>whnf);repeat((first|refine Ct ‹_› ?_|refine Cf ‹_› ?_|refine Ct rfl ?_|refine Cf rfl ?_|refine Bi rfl ?_|refine Bz rfl ?_|refine Lr ?_);conv=>whnf))
      refine Bnd_i (bss (szA s1 (Nat.le_refl _)) s4 rfl) ?_; ((conv=>whnf);repeat((first|refine Ct ‹_› ?_|refine Cf ‹_› ?_|refine Ct rfl ?_|refine Cf rfl ?_|refine Bi rfl ?_|refine Bz rfl ?_|refine Lr ?_);conv=>whnf))
      refine Bnd_i (bss (szA (szA s1 (Nat.le_refl _)) s4) (Nat.le_refl _) rfl) ?_; ((conv=>whnf);repeat((first|refine Ct ‹_› ?_|refine Cf ‹_› ?_|refine Ct rfl ?_|refine Cf rfl ?_|refine Bi rfl ?_|refine Bz rfl ?_|refine Lr ?_);conv=>whnf))
      refine Bnd_i (bss (szA (szA (szA s1 (Nat.le_refl _)) s4) (Nat.le_refl _)) s3 rfl) ?_; ((conv=>whnf);repeat((first|refine Ct ‹_› ?_|refine Cf ‹_› ?_|refine Ct rfl ?_|refine Cf rfl ?_|refine Bi rfl ?_|refine Bz rfl ?_|refine Lr ?_);conv=>whnf))
      refine Bnd_i (bss (szA (szA (szA (szA s1 (Nat.le_refl _)) s4) (Nat.le_refl _)) s3) (Nat.le_refl _) rfl) ?_; ((conv=>whnf);repeat((first|refine Ct ‹_› ?_|refine Cf ‹_› ?_|refine Ct rfl ?_|refine Cf rfl ?_|refine Bi rfl ?_|refine Bz rfl ?_|refine Lr ?_);conv=>whnf))
      (refine CallQ_some (F_l1Num (s.un.getD t.toNat Unt.d).ste hu.ste.1 hu.ste.2) ?_ ?_ ?_; rfl; rfl); ((conv=>whnf);repeat((first|refine Ct ‹_› ?_|refine Cf ‹_› ?_|refine Ct rfl ?_|refine Cf rfl ?_|refine Bi rfl ?_|refine Bz rfl ?_|refine Lr ?_);conv=>whnf))
      refine Bnd_i (bss (szA (szA (szA (szA (szA s1 (Nat.le_refl _)) s4) (Nat.le_refl _)) s3) (Nat.le_refl _)) s2 rfl) ?_; ((conv=>whnf);repeat((first|refine Ct ‹_› ?_|refine Cf ‹_› ?_|refine Ct rfl ?_|refine Cf rfl ?_|refine Bi rfl ?_|refine Bz rfl ?_|refine Lr ?_);conv=>whnf))
      refine Bnd_i (bss (szA (szA (szA (szA (szA (szA s1 (Nat.le_refl _)) s4) (Nat.le_refl _)) s3) (Nat.le_refl _)) s2) (Nat.le_refl _) rfl) ?_; ((conv=>whnf);repeat((first|refine Ct ‹_› ?_|refine Cf ‹_› ?_|refine Ct rfl ?_|refine Cf rfl ?_|refine Bi rfl ?_|refine Bz rfl ?_|refine Lr ?_);conv=>whnf))
      refine Bnd_i (bss s5 (szA (szA (szA (szA (szA (szA (szA s1 (Nat.le_refl _)) s4) (Nat.le_refl _)) s3) (Nat.le_refl _)) s2) (Nat.le_refl _)) rfl) ?_; ((conv=>whnf);repeat((first|refine Ct ‹_› ?_|refine Cf ‹_› ?_|refine Ct rfl ?_|refine Cf rfl ?_|refine Bi rfl ?_|refine Bz rfl ?_|refine Lr ?_);conv=>whnf))
      refine ⟨n - 1, t + 1, out ++ uT b (s.un.getD t.toNat Unt.d), ?_, by omega, by omega, by omega, hnx.symm, ?_⟩
      · rw [wrapI (by omega)]; rfl
      · rw [ByteArray.size_append]; omega
    · have d2 := of_decide_eq_false g2
      have ea : (⟨#[45]⟩ : ByteArray) = atT (s.un.getD t.toNat Unt.d).at' := (if_pos (by omega)).symm
      rw [ea]
      ((conv=>whnf);repeat((first|refine Ct ‹_› ?_|refine Cf ‹_› ?_|refine Ct rfl ?_|refine Cf rfl ?_|refine Bi rfl ?_|refine Bz rfl ?_|refine Lr ?_);conv=>whnf))
      (refine CallQ_some (F_l1Num (s.un.getD t.toNat Unt.d).side hu.side.1 hu.side.2) ?_ ?_ ?_; rfl; rfl); ((conv=>whnf);repeat((first|refine Ct ‹_› ?_|refine Cf ‹_› ?_|refine Ct rfl ?_|refine Cf rfl ?_|refine Bi rfl ?_|refine Bz rfl ?_|refine Lr ?_);conv=>whnf))
      refine Bnd_i (bss s1 (Nat.le_refl _) rfl) ?_; ((conv=>whnf);repeat((first|refine Ct ‹_› ?_|refine Cf ‹_› ?_|refine Ct rfl ?_|refine Cf rfl ?_|refine Bi rfl ?_|refine Bz rfl ?_|refine Lr ?_);conv=>whnf))
      refine Bnd_i (hu.kind) ?_; ((conv=>whnf);repeat((first|refine Ct ‹_› ?_|refine Cf ‹_› ?_|refine Ct rfl ?_|refine Cf rfl ?_|refine Bi rfl ?_|refine Bz rfl ?_|refine Lr ?_);conv=>whnf))
      refine Bnd_i (bss (szA s1 (Nat.le_refl _)) s4 rfl) ?_; ((conv=>whnf);repeat((first|refine Ct ‹_› ?_|refine Cf ‹_› ?_|refine Ct rfl ?_|refine Cf rfl ?_|refine Bi rfl ?_|refine Bz rfl ?_|refine Lr ?_);conv=>whnf))
      refine Bnd_i (bss (szA (szA s1 (Nat.le_refl _)) s4) (Nat.le_refl _) rfl) ?_; ((conv=>whnf);repeat((first|refine Ct ‹_› ?_|refine Cf ‹_› ?_|refine Ct rfl ?_|refine Cf rfl ?_|refine Bi rfl ?_|refine Bz rfl ?_|refine Lr ?_);conv=>whnf))
      refine Bnd_i (bss (szA (szA (szA s1 (Nat.le_refl _)) s4) (Nat.le_refl _)) s3 rfl) ?_; ((conv=>whnf);repeat((first|refine Ct ‹_› ?_|refine Cf ‹_› ?_|refine Ct rfl ?_|refine Cf rfl ?_|refine Bi rfl ?_|refine Bz rfl ?_|refine Lr ?_);conv=>whnf))
      refine Bnd_i (bss (szA (szA (szA (szA s1 (Nat.le_refl _)) s4) (Nat.le_refl _)) s3) (Nat.le_refl _) rfl) ?_; ((conv=>whnf);repeat((first|refine Ct ‹_› ?_|refine Cf ‹_› ?_|refine Ct rfl ?_|refine Cf rfl ?_|refine Bi rfl ?_|refine Bz rfl ?_|refine Lr ?_);conv=>whnf))
      (refine CallQ_some (F_l1Num (s.un.getD t.toNat Unt.d).ste hu.ste.1 hu.ste.2) ?_ ?_ ?_; rfl; rfl); ((conv=>whnf);repeat((first|refine Ct ‹_› ?_|refine Cf ‹_› ?_|refine Ct rfl ?_|refine Cf rfl ?_|refine Bi rfl ?_|refine Bz rfl ?_|refine Lr ?_);conv=>whnf))
      refine Bnd_i (bss (szA (szA (szA (szA (szA s1 (Nat.le_refl _)) s4) (Nat.le_refl _)) s3) (Nat.le_refl _)) s2 rfl) ?_; ((conv=>whnf);repeat((first|refine Ct ‹_› ?_|refine Cf ‹_› ?_|refine Ct rfl ?_|refine Cf rfl ?_|refine Bi rfl ?_|refine Bz rfl ?_|refine Lr ?_);conv=>whnf))
      refine Bnd_i (bss (szA (szA (szA (szA (szA (szA s1 (Nat.le_refl _)) s4) (Nat.le_refl _)) s3) (Nat.le_refl _)) s2) (Nat.le_refl _) rfl) ?_; ((conv=>whnf);repeat((first|refine Ct ‹_› ?_|refine Cf ‹_› ?_|refine Ct rfl ?_|refine Cf rfl ?_|refine Bi rfl ?_|refine Bz rfl ?_|refine Lr ?_);conv=>whnf))
      refine Bnd_i (bss s5 (szA (szA (szA (szA (szA (szA (szA s1 (Nat.le_refl _)) s4) (Nat.le_refl _)) s3) (Nat.le_refl _)) s2) (Nat.le_refl _)) rfl) ?_; ((conv=>whnf);repeat((first|refine Ct ‹_› ?_|refine Cf ‹_› ?_|refine Ct rfl ?_|refine Cf rfl ?_|refine Bi rfl ?_|refine Bz rfl ?_|refine Lr ?_);conv=>whnf))
      refine ⟨n - 1, t + 1, out ++ uT b (s.un.getD t.toNat Unt.d), ?_, by omega, by omega, by omega, hnx.symm, ?_⟩
      · rw [wrapI (by omega)]; rfl
      · rw [ByteArray.size_append]; omega
  · have ht := of_decide_eq_false g
    ((conv=>whnf);repeat((first|refine Ct ‹_› ?_|refine Cf ‹_› ?_|refine Ct rfl ?_|refine Cf rfl ?_|refine Bi rfl ?_|refine Bz rfl ?_|refine Lr ?_);conv=>whnf))
    rw [h3, show t.toNat = s.un.length by omega, List.take_length]
    exact ⟨rfl, rfl, rfl⟩

theorem F_stateText (b : Brd) (ho : b.Ok) (s : Stt) (hs : s.Ok) (h : StOk b s) : Fun E0 33 [.agg b.cs, .agg s.cs] [] (.v (vS (stT b s))) [] [] := by
  have ht := h.turn
  have hw := h.wea
  have hnu := h.gb.nums
  simp only [numsOk, Bool.and_eq_true] at hnu
  have htu := of_decide_eq_true hnu.2
  have hl := h.len
  have d1 := dgT_size ht.1 (show s.turn < 100 by omega)
  have d2 := dgT_size hw.1 (show s.wea < 100 by omega)
  have hh := hT_size ht.1 (by omega) hw.1 (by omega)
  refine Fun_of_xc k33 rfl rfl (fun k q h => by cases h) ?_
  ((conv=>whnf);repeat((first|refine Ct ‹_› ?_|refine Cf ‹_› ?_|refine Ct rfl ?_|refine Cf rfl ?_|refine Bi rfl ?_|refine Bz rfl ?_|refine Lr ?_);conv=>whnf))
  refine Rw_i ⟨false, 1, 1, fun _ _ => cI s.turn⟩ ⟨rfl, rfl, rfl, fun i j hi hj => ?_⟩ ?_
  · have hi : i < 1 := hi
    have hj : j < 1 := hj
    obtain rfl : i = 0 := by omega
    obtain rfl : j = 0 := by omega
    rfl
  ((conv=>whnf);repeat((first|refine Ct ‹_› ?_|refine Cf ‹_› ?_|refine Ct rfl ?_|refine Cf rfl ?_|refine Bi rfl ?_|refine Bz rfl ?_|refine Lr ?_);conv=>whnf))
  refine CallQ_eq ((show _ = [vS ⟨#[116, 117, 114, 110]⟩, V.one (.ro 1 1 fun _ _ => cI s.turn)] from rfl)) ?_
  (refine CallQ_some (F_wordsText ⟨#[116, 117, 114, 110]⟩ s.turn (by decide) ht.1 (by omega)) ?_ ?_ ?_; rfl; rfl); ((conv=>whnf);repeat((first|refine Ct ‹_› ?_|refine Cf ‹_› ?_|refine Ct rfl ?_|refine Cf rfl ?_|refine Bi rfl ?_|refine Bz rfl ?_|refine Lr ?_);conv=>whnf))
  refine Bnd_i (bss (wdT_size (Nat.le_refl _) d1) (Nat.le_refl _) rfl) ?_; ((conv=>whnf);repeat((first|refine Ct ‹_› ?_|refine Cf ‹_› ?_|refine Ct rfl ?_|refine Cf rfl ?_|refine Bi rfl ?_|refine Bz rfl ?_|refine Lr ?_);conv=>whnf))
  refine Rw_i ⟨false, 1, 1, fun _ _ => cI s.wea⟩ ⟨rfl, rfl, rfl, fun i j hi hj => ?_⟩ ?_
  · have hi : i < 1 := hi
    have hj : j < 1 := hj
    obtain rfl : i = 0 := by omega
    obtain rfl : j = 0 := by omega
    rfl
  ((conv=>whnf);repeat((first|refine Ct ‹_› ?_|refine Cf ‹_› ?_|refine Ct rfl ?_|refine Cf rfl ?_|refine Bi rfl ?_|refine Bz rfl ?_|refine Lr ?_);conv=>whnf))
  refine CallQ_eq ((show _ = [vS ⟨#[119, 101, 97, 116, 104, 101, 114]⟩, V.one (.ro 1 1 fun _ _ => cI s.wea)] from rfl)) ?_
  (refine CallQ_some (F_wordsText ⟨#[119, 101, 97, 116, 104, 101, 114]⟩ s.wea (by decide) hw.1 (by omega)) ?_ ?_ ?_; rfl; rfl); ((conv=>whnf);repeat((first|refine Ct ‹_› ?_|refine Cf ‹_› ?_|refine Ct rfl ?_|refine Cf rfl ?_|refine Bi rfl ?_|refine Bz rfl ?_|refine Lr ?_);conv=>whnf))
  refine Bnd_i (bss (szA (wdT_size (Nat.le_refl _) d1) (Nat.le_refl _)) (wdT_size (Nat.le_refl _) d2) rfl) ?_; ((conv=>whnf);repeat((first|refine Ct ‹_› ?_|refine Cf ‹_› ?_|refine Ct rfl ?_|refine Cf rfl ?_|refine Bi rfl ?_|refine Bz rfl ?_|refine Lr ?_);conv=>whnf))
  refine Bnd_i (bss (szA (szA (wdT_size (Nat.le_refl _) d1) (Nat.le_refl _)) (wdT_size (Nat.le_refl _) d2)) (Nat.le_refl _) rfl) ?_; ((conv=>whnf);repeat((first|refine Ct ‹_› ?_|refine Cf ‹_› ?_|refine Ct rfl ?_|refine Cf rfl ?_|refine Bi rfl ?_|refine Bz rfl ?_|refine Lr ?_);conv=>whnf))
  rw [hT_of]
  refine WLoop_v2 ⟨[2, 5, 20, 21, 22], [2], []⟩ (fun (t : Int) (out : ByteArray) => hdS 54 [(2, .v (.one (.box 2 0))), (5, .v (vS out)), (20, .v (.one (roU s.un))), (21, .v (vI s.un.length)), (22, .v (vI t))] [(2, b.cs)] [])
    (fun n t out => 0 ≤ t ∧ t + n = s.un.length ∧ out = usT b (hT s) (s.un.take t.toNat) ∧ out.size ≤ 20 + 20 * t.toNat) s.un.length 0 (hT s) rfl ⟨by omega, by omega, rfl, by omega⟩ ?_
  rintro n t out ⟨h1, h2, h3, h4⟩
  ((conv=>whnf);repeat((first|refine Ct ‹_› ?_|refine Cf ‹_› ?_|refine Ct rfl ?_|refine Cf rfl ?_|refine Bi rfl ?_|refine Bz rfl ?_|refine Lr ?_);conv=>whnf))
  refine Cnd_i (fun g => ?_) (fun g => ?_)
  · have ht := of_decide_eq_true g
    have hu := UnS.of h.gb (h.un _ (getD_memT (d := Unt.d) h1 ht))
    have hz := uT_size hu
    have s1 := dgT_size hu.side.1 hu.side.2
    have s2 := dgT_size hu.ste.1 hu.ste.2
    have s3 := atT_size hu.at'
    have s4 := hu.nam
    have s5 : out.size ≤ 300 := by omega
    have hnx : usT b (hT s) (s.un.take (t + 1).toNat) = out ++ uT b (s.un.getD t.toNat Unt.d) := by
      rw [show (t + 1).toNat = t.toNat + 1 by omega, usT_take _ _ _ _ (by omega), ← h3]
    ((conv=>whnf);repeat((first|refine Ct ‹_› ?_|refine Cf ‹_› ?_|refine Ct rfl ?_|refine Cf rfl ?_|refine Bi rfl ?_|refine Bz rfl ?_|refine Lr ?_);conv=>whnf))
    refine Bnd_i (⟨h1, ht⟩) ?_; ((conv=>whnf);repeat((first|refine Ct ‹_› ?_|refine Cf ‹_› ?_|refine Ct rfl ?_|refine Cf rfl ?_|refine Bi rfl ?_|refine Bz rfl ?_|refine Lr ?_);conv=>whnf))
    (refine CallQ_some (F_Itoa (s.un.getD t.toNat Unt.d).side hu.side.1 hu.side.2) ?_ ?_ ?_; rfl; rfl); ((conv=>whnf);repeat((first|refine Ct ‹_› ?_|refine Cf ‹_› ?_|refine Ct rfl ?_|refine Cf rfl ?_|refine Bi rfl ?_|refine Bz rfl ?_|refine Lr ?_);conv=>whnf))
    refine Bnd_i (bss s1 (Nat.le_refl _) rfl) ?_; ((conv=>whnf);repeat((first|refine Ct ‹_› ?_|refine Cf ‹_› ?_|refine Ct rfl ?_|refine Cf rfl ?_|refine Bi rfl ?_|refine Bz rfl ?_|refine Lr ?_);conv=>whnf))
    refine Bnd_i (hu.kind) ?_; ((conv=>whnf);repeat((first|refine Ct ‹_› ?_|refine Cf ‹_› ?_|refine Ct rfl ?_|refine Cf rfl ?_|refine Bi rfl ?_|refine Bz rfl ?_|refine Lr ?_);conv=>whnf))
    refine Bnd_i (bss (szA s1 (Nat.le_refl _)) s4 rfl) ?_; ((conv=>whnf);repeat((first|refine Ct ‹_› ?_|refine Cf ‹_› ?_|refine Ct rfl ?_|refine Cf rfl ?_|refine Bi rfl ?_|refine Bz rfl ?_|refine Lr ?_);conv=>whnf))
    refine Bnd_i (bss (szA (szA s1 (Nat.le_refl _)) s4) (Nat.le_refl _) rfl) ?_; ((conv=>whnf);repeat((first|refine Ct ‹_› ?_|refine Cf ‹_› ?_|refine Ct rfl ?_|refine Cf rfl ?_|refine Bi rfl ?_|refine Bz rfl ?_|refine Lr ?_);conv=>whnf))
    (refine CallQ_some (F_placeText (s.un.getD t.toNat Unt.d).at' hu.at') ?_ ?_ ?_; rfl; rfl); ((conv=>whnf);repeat((first|refine Ct ‹_› ?_|refine Cf ‹_› ?_|refine Ct rfl ?_|refine Cf rfl ?_|refine Bi rfl ?_|refine Bz rfl ?_|refine Lr ?_);conv=>whnf))
    refine Bnd_i (bss (szA (szA (szA s1 (Nat.le_refl _)) s4) (Nat.le_refl _)) s3 rfl) ?_; ((conv=>whnf);repeat((first|refine Ct ‹_› ?_|refine Cf ‹_› ?_|refine Ct rfl ?_|refine Cf rfl ?_|refine Bi rfl ?_|refine Bz rfl ?_|refine Lr ?_);conv=>whnf))
    refine Bnd_i (bss (szA (szA (szA (szA s1 (Nat.le_refl _)) s4) (Nat.le_refl _)) s3) (Nat.le_refl _) rfl) ?_; ((conv=>whnf);repeat((first|refine Ct ‹_› ?_|refine Cf ‹_› ?_|refine Ct rfl ?_|refine Cf rfl ?_|refine Bi rfl ?_|refine Bz rfl ?_|refine Lr ?_);conv=>whnf))
    (refine CallQ_some (F_Itoa (s.un.getD t.toNat Unt.d).ste hu.ste.1 hu.ste.2) ?_ ?_ ?_; rfl; rfl); ((conv=>whnf);repeat((first|refine Ct ‹_› ?_|refine Cf ‹_› ?_|refine Ct rfl ?_|refine Cf rfl ?_|refine Bi rfl ?_|refine Bz rfl ?_|refine Lr ?_);conv=>whnf))
    refine Bnd_i (bss (szA (szA (szA (szA (szA s1 (Nat.le_refl _)) s4) (Nat.le_refl _)) s3) (Nat.le_refl _)) s2 rfl) ?_; ((conv=>whnf);repeat((first|refine Ct ‹_› ?_|refine Cf ‹_› ?_|refine Ct rfl ?_|refine Cf rfl ?_|refine Bi rfl ?_|refine Bz rfl ?_|refine Lr ?_);conv=>whnf))
    refine Bnd_i (bss (szA (szA (szA (szA (szA (szA s1 (Nat.le_refl _)) s4) (Nat.le_refl _)) s3) (Nat.le_refl _)) s2) (Nat.le_refl _) rfl) ?_; ((conv=>whnf);repeat((first|refine Ct ‹_› ?_|refine Cf ‹_› ?_|refine Ct rfl ?_|refine Cf rfl ?_|refine Bi rfl ?_|refine Bz rfl ?_|refine Lr ?_);conv=>whnf))
    refine Bnd_i (bss s5 (szA (szA (szA (szA (szA (szA (szA s1 (Nat.le_refl _)) s4) (Nat.le_refl _)) s3) (Nat.le_refl _)) s2) (Nat.le_refl _)) rfl) ?_; ((conv=>whnf);repeat((first|refine Ct ‹_› ?_|refine Cf ‹_› ?_|refine Ct rfl ?_|refine Cf rfl ?_|refine Bi rfl ?_|refine Bz rfl ?_|refine Lr ?_);conv=>whnf))
    refine ⟨n - 1, t + 1, out ++ uT b (s.un.getD t.toNat Unt.d), ?_, by omega, by omega, by omega, hnx.symm, ?_⟩
    · rw [wrapI (by omega)]; rfl
    · rw [ByteArray.size_append]; omega
  · have ht := of_decide_eq_false g
    ((conv=>whnf);repeat((first|refine Ct ‹_› ?_|refine Cf ‹_› ?_|refine Ct rfl ?_|refine Cf rfl ?_|refine Bi rfl ?_|refine Bz rfl ?_|refine Lr ?_);conv=>whnf))
    rw [h3, show t.toNat = s.un.length by omega, List.take_length]
    exact ⟨rfl, rfl, rfl⟩

def txR (b : Brd) (s : Stt) (c : Bool) : ByteArray × Bool := if c then (stT b s, true) else (⟨#[]⟩, false)

theorem F_StateText (b : Brd) (ho : b.Ok) (s : Stt) (hs : s.Ok) : Fun E0 8 [.agg b.cs, .agg s.cs] [] (.tup [vS (txR b s (okBrd b && okSt b s)).1, vB (txR b s (okBrd b && okSt b s)).2]) [] [] := by
  refine Fun_of_xc k8 rfl rfl (fun k q h => by cases h) ?_
  ((conv=>whnf);repeat((first|refine Ct ‹_› ?_|refine Cf ‹_› ?_|refine Ct rfl ?_|refine Cf rfl ?_|refine Bi rfl ?_|refine Bz rfl ?_|refine Lr ?_);conv=>whnf))
  (refine CallQ_some (F_sGood b ho s hs) ?_ ?_ ?_; rfl; rfl); ((conv=>whnf);repeat((first|refine Ct ‹_› ?_|refine Cf ‹_› ?_|refine Ct rfl ?_|refine Cf rfl ?_|refine Bi rfl ?_|refine Bz rfl ?_|refine Lr ?_);conv=>whnf))
  refine Cnd_i (fun g => ?_) (fun g => ?_)
  · have e : (okBrd b && okSt b s) = false := by simpa only [Bool.not_eq_true'] using g
    ((conv=>whnf);repeat((first|refine Ct ‹_› ?_|refine Cf ‹_› ?_|refine Ct rfl ?_|refine Cf rfl ?_|refine Bi rfl ?_|refine Bz rfl ?_|refine Lr ?_);conv=>whnf))
    rw [e]
    exact ⟨rfl, rfl, rfl⟩
  have e : (okBrd b && okSt b s) = true := by simpa using g
  ((conv=>whnf);repeat((first|refine Ct ‹_› ?_|refine Cf ‹_› ?_|refine Ct rfl ?_|refine Cf rfl ?_|refine Bi rfl ?_|refine Bz rfl ?_|refine Lr ?_);conv=>whnf))
  (refine CallQ_some (F_sText b ho s hs (StOk.of ho e)) ?_ ?_ ?_; rfl; rfl); ((conv=>whnf);repeat((first|refine Ct ‹_› ?_|refine Cf ‹_› ?_|refine Ct rfl ?_|refine Cf rfl ?_|refine Bi rfl ?_|refine Bz rfl ?_|refine Lr ?_);conv=>whnf))
  rw [e]
  exact ⟨rfl, rfl, rfl⟩

theorem F_StateTextI (b : Brd) (ho : b.Ok) (s : Stt) (hs : s.Ok) : Fun E0 11 [.agg b.cs, .agg s.cs] [] (.tup [vS (txR b s (okBrd b && okSt b s)).1, vB (txR b s (okBrd b && okSt b s)).2]) [] [] := by
  refine Fun_of_xc k11 rfl rfl (fun k q h => by cases h) ?_
  ((conv=>whnf);repeat((first|refine Ct ‹_› ?_|refine Cf ‹_› ?_|refine Ct rfl ?_|refine Cf rfl ?_|refine Bi rfl ?_|refine Bz rfl ?_|refine Lr ?_);conv=>whnf))
  (refine CallQ_some (F_fits b ho s hs) ?_ ?_ ?_; rfl; rfl); ((conv=>whnf);repeat((first|refine Ct ‹_› ?_|refine Cf ‹_› ?_|refine Ct rfl ?_|refine Cf rfl ?_|refine Bi rfl ?_|refine Bz rfl ?_|refine Lr ?_);conv=>whnf))
  refine Cnd_i (fun g => ?_) (fun g => ?_)
  · have e : (okBrd b && okSt b s) = false := by simpa only [Bool.not_eq_true'] using g
    ((conv=>whnf);repeat((first|refine Ct ‹_› ?_|refine Cf ‹_› ?_|refine Ct rfl ?_|refine Cf rfl ?_|refine Bi rfl ?_|refine Bz rfl ?_|refine Lr ?_);conv=>whnf))
    rw [e]
    exact ⟨rfl, rfl, rfl⟩
  have e : (okBrd b && okSt b s) = true := by simpa using g
  ((conv=>whnf);repeat((first|refine Ct ‹_› ?_|refine Cf ‹_› ?_|refine Ct rfl ?_|refine Cf rfl ?_|refine Bi rfl ?_|refine Bz rfl ?_|refine Lr ?_);conv=>whnf))
  (refine CallQ_some (F_stateText b ho s hs (StOk.of ho e)) ?_ ?_ ?_; rfl; rfl); ((conv=>whnf);repeat((first|refine Ct ‹_› ?_|refine Cf ‹_› ?_|refine Ct rfl ?_|refine Cf rfl ?_|refine Bi rfl ?_|refine Bz rfl ?_|refine Lr ?_);conv=>whnf))
  rw [e]
  exact ⟨rfl, rfl, rfl⟩

theorem F_FnExactStateText (x0 : Brd) (x1 : Stt) (o0 : x0.Ok) (o1 : x1.Ok) :
    Fun E0 3 [.agg x0.cs, .agg x1.cs] [] (.v (vB true)) [] [] := by
  have hS := F_StateText x0 o0 x1 o1
  have hI := F_StateTextI x0 o0 x1 o1
  revert hS hI
  generalize (txR x0 x1 (okBrd x0 && okSt x0 x1)) = RR
  obtain ⟨r0, r1⟩ := RR
  intro hS hI
  dsimp only at hS
  dsimp only at hI
  refine Fun_of_xc k3 rfl rfl (fun k q h => by cases h) ?_
  ((conv=>whnf);repeat((first|refine Ct ‹_› ?_|refine Cf ‹_› ?_|refine Ct rfl ?_|refine Cf rfl ?_|refine Bi rfl ?_|refine Bz rfl ?_|refine Lr ?_);conv=>whnf))
  (refine CallQ_some (F_szBoard x0 o0 1048576 (by omega) (by omega)) ?_ ?_ ?_; rfl; rfl); ((conv=>whnf);repeat((first|refine Ct ‹_› ?_|refine Cf ‹_› ?_|refine Ct rfl ?_|refine Cf rfl ?_|refine Bi rfl ?_|refine Bz rfl ?_|refine Lr ?_);conv=>whnf))
  refine Cnd_i (fun g => ?_) (fun g => ?_)
  · ((conv=>whnf);repeat((first|refine Ct ‹_› ?_|refine Cf ‹_› ?_|refine Ct rfl ?_|refine Cf rfl ?_|refine Bi rfl ?_|refine Bz rfl ?_|refine Lr ?_);conv=>whnf))
    exact ⟨rfl, rfl, rfl⟩
  have sm0 := szB_sm (b := x0) (x := 1048576) (by omega) (by omega) (of_decide_eq_false g)
  have s0 := sm0.1
  have sb0 := sm0.2
  have sc0 := of_decide_eq_false g
  ((conv=>whnf);repeat((first|refine Ct ‹_› ?_|refine Cf ‹_› ?_|refine Ct rfl ?_|refine Cf rfl ?_|refine Bi rfl ?_|refine Bz rfl ?_|refine Lr ?_);conv=>whnf))
  (refine CallQ_some (F_szState x1 o1 (szB x0 1048576) (by omega) (by omega)) ?_ ?_ ?_; rfl; rfl); ((conv=>whnf);repeat((first|refine Ct ‹_› ?_|refine Cf ‹_› ?_|refine Ct rfl ?_|refine Cf rfl ?_|refine Bi rfl ?_|refine Bz rfl ?_|refine Lr ?_);conv=>whnf))
  refine Cnd_i (fun g => ?_) (fun g => ?_)
  · ((conv=>whnf);repeat((first|refine Ct ‹_› ?_|refine Cf ‹_› ?_|refine Ct rfl ?_|refine Cf rfl ?_|refine Bi rfl ?_|refine Bz rfl ?_|refine Lr ?_);conv=>whnf))
    exact ⟨rfl, rfl, rfl⟩
  have sm1 := szSt_sm (s := x1) (x := szB x0 1048576) (by omega) (by omega) (of_decide_eq_false g)
  have s1 := sm1.1
  have sb1 := sm1.2
  have sc1 := of_decide_eq_false g
  have u1 := s1.un
  ((conv=>whnf);repeat((first|refine Ct ‹_› ?_|refine Cf ‹_› ?_|refine Ct rfl ?_|refine Cf rfl ?_|refine Bi rfl ?_|refine Bz rfl ?_|refine Lr ?_);conv=>whnf))
  (refine CallQ_some (F_toBoard x0 s0) ?_ ?_ ?_; rfl; rfl); ((conv=>whnf);repeat((first|refine Ct ‹_› ?_|refine Cf ‹_› ?_|refine Ct rfl ?_|refine Cf rfl ?_|refine Bi rfl ?_|refine Bz rfl ?_|refine Lr ?_);conv=>whnf))
  (refine CallQ_some (F_toState x1 s1) ?_ ?_ ?_; rfl; rfl); ((conv=>whnf);repeat((first|refine Ct ‹_› ?_|refine Cf ‹_› ?_|refine Ct rfl ?_|refine Cf rfl ?_|refine Bi rfl ?_|refine Bz rfl ?_|refine Lr ?_);conv=>whnf))
  refine CallQ_eq (snapBS x0 x1 _) ?_
  (refine CallQ_some (hS) ?_ ?_ ?_; rfl; rfl); ((conv=>whnf);repeat((first|refine Ct ‹_› ?_|refine Cf ‹_› ?_|refine Ct rfl ?_|refine Cf rfl ?_|refine Bi rfl ?_|refine Bz rfl ?_|refine Lr ?_);conv=>whnf))
  (refine CallQ_some (F_toBoard x0 s0) ?_ ?_ ?_; rfl; rfl); ((conv=>whnf);repeat((first|refine Ct ‹_› ?_|refine Cf ‹_› ?_|refine Ct rfl ?_|refine Cf rfl ?_|refine Bi rfl ?_|refine Bz rfl ?_|refine Lr ?_);conv=>whnf))
  (refine CallQ_some (F_toState x1 s1) ?_ ?_ ?_; rfl; rfl); ((conv=>whnf);repeat((first|refine Ct ‹_› ?_|refine Cf ‹_› ?_|refine Ct rfl ?_|refine Cf rfl ?_|refine Bi rfl ?_|refine Bz rfl ?_|refine Lr ?_);conv=>whnf))
  refine CallQ_eq (snapBS x0 x1 _) ?_
  (refine CallQ_some (hI) ?_ ?_ ?_; rfl; rfl); ((conv=>whnf);repeat((first|refine Ct ‹_› ?_|refine Cf ‹_› ?_|refine Ct rfl ?_|refine Cf rfl ?_|refine Bi rfl ?_|refine Bz rfl ?_|refine Lr ?_);conv=>whnf))
  repeat (refine Cnd_f (by simp) ?_; ((conv=>whnf);repeat((first|refine Ct ‹_› ?_|refine Cf ‹_› ?_|refine Ct rfl ?_|refine Cf rfl ?_|refine Bi rfl ?_|refine Bz rfl ?_|refine Lr ?_);conv=>whnf)))
  repeat (refine Cnd_f (by simp) ?_; ((conv=>whnf);repeat((first|refine Ct ‹_› ?_|refine Cf ‹_› ?_|refine Ct rfl ?_|refine Cf rfl ?_|refine Bi rfl ?_|refine Bz rfl ?_|refine Lr ?_);conv=>whnf)))
  repeat (refine Cnd_f (by simp) ?_; ((conv=>whnf);repeat((first|refine Ct ‹_› ?_|refine Cf ‹_› ?_|refine Ct rfl ?_|refine Cf rfl ?_|refine Bi rfl ?_|refine Bz rfl ?_|refine Lr ?_);conv=>whnf)))
  (refine CallQ_some (F_toBoard x0 s0) ?_ ?_ ?_; rfl; rfl); ((conv=>whnf);repeat((first|refine Ct ‹_› ?_|refine Cf ‹_› ?_|refine Ct rfl ?_|refine Cf rfl ?_|refine Bi rfl ?_|refine Bz rfl ?_|refine Lr ?_);conv=>whnf))
  refine CallQ_eq (snapBB x0) ?_
  (refine CallQ_some (F_eqBoard x0 s0) ?_ ?_ ?_; rfl; rfl); ((conv=>whnf);repeat((first|refine Ct ‹_› ?_|refine Cf ‹_› ?_|refine Ct rfl ?_|refine Cf rfl ?_|refine Bi rfl ?_|refine Bz rfl ?_|refine Lr ?_);conv=>whnf))
  (refine CallQ_some (F_toState x1 s1) ?_ ?_ ?_; rfl; rfl); ((conv=>whnf);repeat((first|refine Ct ‹_› ?_|refine Cf ‹_› ?_|refine Ct rfl ?_|refine Cf rfl ?_|refine Bi rfl ?_|refine Bz rfl ?_|refine Lr ?_);conv=>whnf))
  refine CallQ_eq (snapSS x1) ?_
  (refine CallQ_some (F_eqState x1 s1) ?_ ?_ ?_; rfl; rfl); ((conv=>whnf);repeat((first|refine Ct ‹_› ?_|refine Cf ‹_› ?_|refine Ct rfl ?_|refine Cf rfl ?_|refine Bi rfl ?_|refine Bz rfl ?_|refine Lr ?_);conv=>whnf))
  exact ⟨rfl, rfl, rfl⟩
end Go.Proofs.YthleikolhjdffaaGreatDoor.Ab
