/-
  The walks of the sums, behind: sum.Open: what is sealed is opened, all else is refused; nothing that was there is changed.
-/
import Derived.Test.YtmfobogicdeokaaSumB
import Derived.Deep.RegionWith
import Derived.Deep.DeepCutAuto
namespace Go.Proofs.Ytmfobogicdeokaa
open Go.RowKit

set_option maxHeartbeats 400000 in
theorem open_torn (A : Option Addr) (n c : Nat) (w : World) (hn : n < 4) :
    Calls Try.prog 19 #[.slice A n c] w fun e w' => e = .returned (.tuple #[.slice none 0 0, .int .i64 4]) ∧ w = w' := by
  go_enter Try.func19, Try.ntmps19
  go_wp2
  go_ret2
  exact ⟨rfl, rfl⟩

theorem conv_b {B n : Nat} {w : World} {A : Option Addr} {l : List UInt8} (h : Row B w A n 1 (bts l)) (c : Nat) : (convert 22 9 (.slice A n c)).run Try.prog w = .ok (.string ⟨l.toArray⟩) w :=
  conv_row _ _ 5 Try.underlying22 Try.underlying5 Try.underlying9 h c

set_option maxHeartbeats 400000 in
theorem open_bad (A : Option Addr) (n c : Nat) (l : List UInt8) (w : World) (hn : n ≤ c) (hm : c ≤ maxLen) (h4 : 4 ≤ n) (hbig : n ≤ 1073741824) (hr : Row w.heap.size w A n 1 (bts l)) (hne : (Crc.sealed (l.take (n - 4)) == l) = false) :
    Calls Try.prog 19 #[.slice A n c] w fun e w' => e = .returned (.tuple #[.slice none 0 0, .int .i64 5]) ∧ Below w.heap.size w w' := by
  have hm' : c ≤ 9223372036854775807 := hm
  have hcut : Row w.heap.size w A (n - 4) 1 (bts (l.take (n - 4))) := by
    have := hr.pre (m := n - 4) (by omega)
    rwa [Nat.mul_one, ← bts_take] at this
  have hcv := conv_b hr.drew c
  go_enter Try.func19, Try.ntmps19
  go_upto_region 4 with (fail)
  go_cut [11] (fun s wx => s = .bool true ∧ Below w.heap.size w wx)
  case first =>
    go_region_with (go_at_call 17; refine (seal_any A (n - 4) c (l.take (n - 4)) _ (by omega) hm (by omega) hcut.drew).mono ?_; rintro e w1 ⟨A1, c1, rfl, ho1, _, _, hb1⟩; rw [Nat.sub_add_cancel h4] at ho1; have hcv1 := conv_b (Row.own ho1) c1; have hcv2 := conv_b (hr.drew.below hb1) c)
    all_goals (go_wp2_with fail; go_meet; exact ⟨rfl, (Below.refl _ _).drew.trans hb1⟩)
  case rest =>
    obtain ⟨rfl, hb⟩ := hcut
    go_wp2
    go_ret2
    exact ⟨rfl, hb⟩

set_option maxHeartbeats 400000 in
theorem open_good (A : Option Addr) (n c : Nat) (l : List UInt8) (w : World) (hn : n ≤ c) (hm : c ≤ maxLen) (h4 : 4 ≤ n) (hbig : n ≤ 1073741824) (hr : Row w.heap.size w A n 1 (bts l)) (hne : (Crc.sealed (l.take (n - 4)) == l) = true) :
    Calls Try.prog 19 #[.slice A n c] w fun e w' => ∃ A' c', e = .returned (.tuple #[.slice A' (n - 4) c', .int .i64 0]) ∧ w'.ownsRow w.heap.size 5 1 (.slice A' (n - 4) c') (n - 4) (bts (l.take (n - 4))) ∧ n - 4 ≤ c' ∧ c' ≤ maxLen ∧ Below w.heap.size w w' := by
  obtain ⟨i0, hi0, hz0, hz1, hz2⟩ := info_parts info_u8
  have hm' : c ≤ 9223372036854775807 := hm
  have hpre : Row w.heap.size w A (n - 4) 1 (bts (l.take (n - 4))) := by
    have := hr.pre (m := n - 4) (by omega)
    rwa [Nat.mul_one, ← bts_take] at this
  have hcv := conv_b hr.drew c
  have hne' : (!(Crc.sealed (l.take (n - 4)) == l)) = false := by rw [hne]; rfl
  go_enter Try.func19, Try.ntmps19
  go_upto_region 4 with (fail)
  go_cut [11] (fun s wx => s = .bool false ∧ Below w.heap.size w wx)
  case first =>
    go_region_with (go_at_call 17; refine (seal_any A (n - 4) c (l.take (n - 4)) _ (by omega) hm (by omega) hpre.drew).mono ?_; rintro e w1 ⟨A1, c1, rfl, ho1, _, _, hb1⟩; rw [Nat.sub_add_cancel h4] at ho1; have hcv1 := conv_b (Row.own ho1) c1; have hcv2 := conv_b (hr.drew.below hb1) c)
    all_goals (go_wp2_with fail; go_meet; exact ⟨rfl, (Below.refl _ _).drew.trans hb1⟩)
  case rest =>
    obtain ⟨rfl, hb⟩ := hcut
    clear hne hne' hcv
    go_wp2_with (at_builtin; refine stop_in ?_)
    refine stop_out (wpList_app0 rfl (.const (.slice none 0 0)) (.tmp 22) _ rfl w.heap.size 5 i0 _ 1 1 Try.underlying22 hi0 hz0 hz1 hz2 rfl (by omega) w hb hb.size rfl w.heap.size A (n - 4) c (bts (l.take (n - 4))) rfl (hpre.below hb) (bts_one _) (by unfold maxLen; omega) (by omega) ?_)
    intro A2 c2 w2 hown2 hb2 _ hc2 hm2
    go_wp2
    go_ret2
    exact ⟨A2, c2, rfl, hown2, hc2, hm2, hb2⟩
end Go.Proofs.Ytmfobogicdeokaa
