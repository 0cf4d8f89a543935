/- Texts EditD in one. No conditions. -/
import Derived.Test.YthepokgkfaocmaaGreatDoorBunC
import Derived.Test.YthepokgkfaocmaaGreatDoorBunB
import Derived.Deep.CutBlock

/-
  The walk of edit.Apply, for Views and changes that speak of no files.
-/
namespace Go.Proofs.YthepokgkfaocmaaGreatDoor
open Go.RowKit

theorem orElse_zero (b : Nat) : orElse 0 b = b := rfl
theorem orElse_pos {a : Nat} (h : a ≠ 0) (b : Nat) : orElse a b = a := if_neg h

set_option maxRecDepth 100000 in
set_option maxHeartbeats 2000000 in
theorem apply_bare (g f c a l G F C A L : Nat) (w : World) (h1 : 1 ≤ orElse G g) (h2 : orElse G g ≤ 1073741824) (hb : bigs [orElse F f, orElse C c, orElse A a, orElse L l] = false) :
    Calls Tryz.prog 44 #[vwV g f c a l, edV G F C A L] w fun e w' => e = .returned (.tuple #[vwV (orElse G g : Nat) (orElse F f : Nat) (orElse C c : Nat) (orElse A a : Nat) (orElse L l : Nat), .bool true]) ∧ Below w.heap.size w w' := by
  obtain ⟨g', hg'⟩ : ∃ x, orElse G g = x := ⟨_, rfl⟩
  obtain ⟨f', hf'⟩ : ∃ x, orElse F f = x := ⟨_, rfl⟩
  obtain ⟨c', hc'⟩ : ∃ x, orElse C c = x := ⟨_, rfl⟩
  obtain ⟨a', ha'⟩ : ∃ x, orElse A a = x := ⟨_, rfl⟩
  obtain ⟨l', hl'⟩ : ∃ x, orElse L l = x := ⟨_, rfl⟩
  rw [hg'] at h1 h2 ⊢
  rw [hf', hc', ha', hl'] at hb ⊢
  have hok := fun W => ok_bare (g' : Int) f' c' a' l' W (by omega) (by omega) hb
  have HOK := Lib.hid hok
  have HG := Lib.hid hg'
  have HF := Lib.hid hf'
  have HC := Lib.hid hc'
  have HA := Lib.hid ha'
  have HL := Lib.hid hl'
  clear hok hb hg' hf' hc' ha' hl'
  unfold vwV edV at *
  go_enter Tryz.func44, Tryz.ntmps44
  go_wp2
  have hbw : ∀ o, Below w.heap.size w ((((w.alloc (.cells #[.int .i64 (g : Int), .slice none 0 0, .int .u64 (f : Int), .int .u64 (c : Int), .int .u64 (a : Int), .int .u64 (l : Int)] 31)).alloc
      (.cells #[.slice none 0 0, .slice none 0 0, .int .i64 (G : Int), .int .u64 (F : Int), .int .u64 (C : Int), .int .u64 (A : Int), .int .u64 (L : Int)] 39)).alloc
      (.cells #[.int .i64 0, .slice none 0 0, .int .u64 0, .int .u64 0, .int .u64 0, .int .u64 0] 31)).alloc o) := fun o =>
    ((((Below.refl _ _).alloc (Nat.le_refl _) _).alloc (by simp) _).alloc (by simp; omega) _).alloc (by simp; omega) _
  have HBW := Lib.hid hbw
  clear hbw
  go_loopw [20] (fun x wr => x = .int .i64 0 ∧ wr = ((((w.alloc (.cells #[.int .i64 (g : Int), .slice none 0 0, .int .u64 (f : Int), .int .u64 (c : Int), .int .u64 (a : Int), .int .u64 (l : Int)] 31)).alloc
      (.cells #[.slice none 0 0, .slice none 0 0, .int .i64 (G : Int), .int .u64 (F : Int), .int .u64 (C : Int), .int .u64 (A : Int), .int .u64 (L : Int)] 39)).alloc
      (.cells #[.int .i64 0, .slice none 0 0, .int .u64 0, .int .u64 0, .int .u64 0, .int .u64 0] 31)).alloc
      (.cells #[.int .i64 (g : Int), .slice none 0 0, .int .u64 (f : Int), .int .u64 (c : Int), .int .u64 (a : Int), .int .u64 (l : Int)] 31))) (fun _ _ => 0)
  case atStart => exact ⟨rfl, rfl⟩
  case round =>
    obtain ⟨rfl, rfl⟩ := hrel
    go_wp2_with fail
    refine (clip_none _).mono ?_
    rintro e w1 ⟨rfl, rfl⟩
    go_upto_if 48 with (fail)
    go_cut [] (fun wx => wx = ((((w.alloc (.cells #[.int .i64 (g : Int), .slice none 0 0, .int .u64 (f : Int), .int .u64 (c : Int), .int .u64 (a : Int), .int .u64 (l : Int)] 31)).alloc
      (.cells #[.slice none 0 0, .slice none 0 0, .int .i64 (G : Int), .int .u64 (F : Int), .int .u64 (C : Int), .int .u64 (A : Int), .int .u64 (L : Int)] 39)).alloc
      (.cells #[.int .i64 0, .slice none 0 0, .int .u64 0, .int .u64 0, .int .u64 0, .int .u64 0] 31)).alloc
      (.cells #[.int .i64 (g' : Int), .slice none 0 0, .int .u64 (f : Int), .int .u64 (c : Int), .int .u64 (a : Int), .int .u64 (l : Int)] 31)))
    case first =>
      have hg' : orElse G g = g' := HG
      by_cases hG : G = 0
      · have e1 : ((G : Int) == 0) = true := by simp [hG]
        have e2 : (!((G : Int) == 0)) = false := by rw [e1]; rfl
        obtain rfl : g = g' := by rw [← hg', hG]; rfl
        clear hG hg'
        go_wp2_with fail
        go_meet
        rfl
      · have e1 : ((G : Int) == 0) = false := by simp; omega
        have e2 : (!((G : Int) == 0)) = true := by rw [e1]; rfl
        obtain rfl : G = g' := by rw [← hg', orElse_pos hG]
        clear hG hg'
        go_wp2_with fail
        go_meet
        rfl
    case rest =>
      subst hcut
      go_wp2
      have hV := (HBW (.cells #[.int .i64 (g' : Int), .slice none 0 0, .int .u64 (f : Int), .int .u64 (c : Int), .int .u64 (a : Int), .int .u64 (l : Int)] 31)).alloc (by simp; omega) (.cells #[.int .u64 (F : Int), .pointer (some ⟨w.heap.size + 1 + 1 + 1, 2, none⟩), .int .u64 (C : Int), .pointer (some ⟨w.heap.size + 1 + 1 + 1, 3, none⟩), .int .u64 (A : Int), .pointer (some ⟨w.heap.size + 1 + 1 + 1, 4, none⟩), .int .u64 (L : Int), .pointer (some ⟨w.heap.size + 1 + 1 + 1, 5, none⟩)] 137)
      have hO := (BoxO.new (((w.alloc (.cells #[.int .i64 (g : Int), .slice none 0 0, .int .u64 (f : Int), .int .u64 (c : Int), .int .u64 (a : Int), .int .u64 (l : Int)] 31)).alloc
        (.cells #[.slice none 0 0, .slice none 0 0, .int .i64 (G : Int), .int .u64 (F : Int), .int .u64 (C : Int), .int .u64 (A : Int), .int .u64 (L : Int)] 39)).alloc
        (.cells #[.int .i64 0, .slice none 0 0, .int .u64 0, .int .u64 0, .int .u64 0, .int .u64 0] 31))
        #[.int .i64 (g' : Int), .slice none 0 0, .int .u64 (f : Int), .int .u64 (c : Int), .int .u64 (a : Int), .int .u64 (l : Int)] 31).alloc (.cells #[.int .u64 (F : Int), .pointer (some ⟨w.heap.size + 1 + 1 + 1, 2, none⟩), .int .u64 (C : Int), .pointer (some ⟨w.heap.size + 1 + 1 + 1, 3, none⟩), .int .u64 (A : Int), .pointer (some ⟨w.heap.size + 1 + 1 + 1, 4, none⟩), .int .u64 (L : Int), .pointer (some ⟨w.heap.size + 1 + 1 + 1, 5, none⟩)] 137)
      have hR := ((BoxO.new ((w.alloc (.cells #[.int .i64 (g : Int), .slice none 0 0, .int .u64 (f : Int), .int .u64 (c : Int), .int .u64 (a : Int), .int .u64 (l : Int)] 31)).alloc
        (.cells #[.slice none 0 0, .slice none 0 0, .int .i64 (G : Int), .int .u64 (F : Int), .int .u64 (C : Int), .int .u64 (A : Int), .int .u64 (L : Int)] 39))
        #[.int .i64 0, .slice none 0 0, .int .u64 0, .int .u64 0, .int .u64 0, .int .u64 0] 31).alloc (.cells #[.int .i64 (g' : Int), .slice none 0 0, .int .u64 (f : Int), .int .u64 (c : Int), .int .u64 (a : Int), .int .u64 (l : Int)] 31)).alloc (.cells #[.int .u64 (F : Int), .pointer (some ⟨w.heap.size + 1 + 1 + 1, 2, none⟩), .int .u64 (C : Int), .pointer (some ⟨w.heap.size + 1 + 1 + 1, 3, none⟩), .int .u64 (A : Int), .pointer (some ⟨w.heap.size + 1 + 1 + 1, 4, none⟩), .int .u64 (L : Int), .pointer (some ⟨w.heap.size + 1 + 1 + 1, 5, none⟩)] 137)
      have hQ := BoxO.new ((((w.alloc (.cells #[.int .i64 (g : Int), .slice none 0 0, .int .u64 (f : Int), .int .u64 (c : Int), .int .u64 (a : Int), .int .u64 (l : Int)] 31)).alloc
        (.cells #[.slice none 0 0, .slice none 0 0, .int .i64 (G : Int), .int .u64 (F : Int), .int .u64 (C : Int), .int .u64 (A : Int), .int .u64 (L : Int)] 39)).alloc
        (.cells #[.int .i64 0, .slice none 0 0, .int .u64 0, .int .u64 0, .int .u64 0, .int .u64 0] 31)).alloc
        (.cells #[.int .i64 (g' : Int), .slice none 0 0, .int .u64 (f : Int), .int .u64 (c : Int), .int .u64 (a : Int), .int .u64 (l : Int)] 31)) #[.int .u64 (F : Int), .pointer (some ⟨w.heap.size + 1 + 1 + 1, 2, none⟩), .int .u64 (C : Int), .pointer (some ⟨w.heap.size + 1 + 1 + 1, 3, none⟩), .int .u64 (A : Int), .pointer (some ⟨w.heap.size + 1 + 1 + 1, 4, none⟩), .int .u64 (L : Int), .pointer (some ⟨w.heap.size + 1 + 1 + 1, 5, none⟩)] 137
      simp only [World.size_alloc] at hO hR hQ
      change Code.wp _ _ _ _ (((((w.alloc (.cells #[.int .i64 (g : Int), .slice none 0 0, .int .u64 (f : Int), .int .u64 (c : Int), .int .u64 (a : Int), .int .u64 (l : Int)] 31)).alloc
        (.cells #[.slice none 0 0, .slice none 0 0, .int .i64 (G : Int), .int .u64 (F : Int), .int .u64 (C : Int), .int .u64 (A : Int), .int .u64 (L : Int)] 39)).alloc
        (.cells #[.int .i64 0, .slice none 0 0, .int .u64 0, .int .u64 0, .int .u64 0, .int .u64 0] 31)).alloc
        (.cells #[.int .i64 (g' : Int), .slice none 0 0, .int .u64 (f : Int), .int .u64 (c : Int), .int .u64 (a : Int), .int .u64 (l : Int)] 31)).alloc (.cells #[.int .u64 (F : Int), .pointer (some ⟨w.heap.size + 1 + 1 + 1, 2, none⟩), .int .u64 (C : Int), .pointer (some ⟨w.heap.size + 1 + 1 + 1, 3, none⟩), .int .u64 (A : Int), .pointer (some ⟨w.heap.size + 1 + 1 + 1, 4, none⟩), .int .u64 (L : Int), .pointer (some ⟨w.heap.size + 1 + 1 + 1, 5, none⟩)] 137))
      generalize (((((w.alloc (.cells #[.int .i64 (g : Int), .slice none 0 0, .int .u64 (f : Int), .int .u64 (c : Int), .int .u64 (a : Int), .int .u64 (l : Int)] 31)).alloc
        (.cells #[.slice none 0 0, .slice none 0 0, .int .i64 (G : Int), .int .u64 (F : Int), .int .u64 (C : Int), .int .u64 (A : Int), .int .u64 (L : Int)] 39)).alloc
        (.cells #[.int .i64 0, .slice none 0 0, .int .u64 0, .int .u64 0, .int .u64 0, .int .u64 0] 31)).alloc
        (.cells #[.int .i64 (g' : Int), .slice none 0 0, .int .u64 (f : Int), .int .u64 (c : Int), .int .u64 (a : Int), .int .u64 (l : Int)] 31)).alloc (.cells #[.int .u64 (F : Int), .pointer (some ⟨w.heap.size + 1 + 1 + 1, 2, none⟩), .int .u64 (C : Int), .pointer (some ⟨w.heap.size + 1 + 1 + 1, 3, none⟩), .int .u64 (A : Int), .pointer (some ⟨w.heap.size + 1 + 1 + 1, 4, none⟩), .int .u64 (L : Int), .pointer (some ⟨w.heap.size + 1 + 1 + 1, 5, none⟩)] 137)) = V at *
      clear HBW
      go_loopw [70] (fun i wr => ∃ k x0 x1 x2 x3 : Nat, k ≤ 4 ∧ i = .int .i64 (k : Int) ∧ BoxO wr 31 (w.heap.size + 1 + 1 + 1) [.int .i64 (g' : Int), .slice none 0 0, .int .u64 (x0 : Int), .int .u64 (x1 : Int), .int .u64 (x2 : Int), .int .u64 (x3 : Int)] ∧
        Hid (x0 = (if 0 < k then f' else f) ∧ x1 = (if 1 < k then c' else c) ∧ x2 = (if 2 < k then a' else a) ∧ x3 = (if 3 < k then l' else l)) ∧ Chg [w.heap.size + 1 + 1 + 1] V wr) (fun i _ => 4 - (intOf i).toNat)
      case atStart => exact ⟨0, f, c, a, l, by omega, rfl, hO, Lib.hid ⟨rfl, rfl, rfl, rfl⟩, Chg.refl _ _⟩
      case round =>
        obtain ⟨k, x0, x1, x2, x3, hk, rfl, hBo, hx, hchg⟩ := hrel
        have hQr := hQ.chg hchg (by simp)
        have hRr := hR.chg hchg (by simp)
        have hlt := hBo.lt
        have o0 := hBo.cell 0
        have z0 := hBo.free 0
        have o1 := hBo.cell 1
        have z1 := hBo.free 1
        have o2 := hBo.cell 2
        have z2 := hBo.free 2
        have o3 := hBo.cell 3
        have z3 := hBo.free 3
        have o4 := hBo.cell 4
        have z4 := hBo.free 4
        have o5 := hBo.cell 5
        have z5 := hBo.free 5
        have p0 := hQr.cell 0
        have p1 := hQr.cell 1
        have p2 := hQr.cell 2
        have p3 := hQr.cell 3
        have p4 := hQr.cell 4
        have p5 := hQr.cell 5
        have p6 := hQr.cell 6
        have p7 := hQr.cell 7
        simp only [List.getElem?_cons_zero, List.getElem?_cons_succ] at o0 o1 o2 o3 o4 o5 p0 p1 p2 p3 p4 p5 p6 p7
        rcases (by omega : k = 0 ∨ k = 1 ∨ k = 2 ∨ k = 3 ∨ k = 4) with rfl | rfl | rfl | rfl | rfl
        · have he : orElse F f = f' := HF
          have hx' : x0 = (if 0 < 0 then f' else f) ∧ x1 = (if 1 < 0 then c' else c) ∧ x2 = (if 2 < 0 then a' else a) ∧ x3 = (if 3 < 0 then l' else l) := hx
          have HX := Lib.hid hx'
          by_cases hE : F = 0
          · have e1 : ((F : Int) == 0) = true := by simp [hE]
            have e2 : (!((F : Int) == 0)) = false := by rw [e1]; rfl
            have hv : f = f' := by rw [← he, hE]; rfl
            have HV := Lib.hid hv
            clear hv he hE hx' hx
            go_wp2
            go_roundw
            case rel =>
              refine ⟨1, x0, x1, x2, x3, by omega, rfl, hBo.alloc _, Lib.hid ?_, hchg.alloc _⟩
              have hx' : x0 = (if 0 < 0 then f' else f) ∧ x1 = (if 1 < 0 then c' else c) ∧ x2 = (if 2 < 0 then a' else a) ∧ x3 = (if 3 < 0 then l' else l) := HX
              have hv : f = f' := HV
              simp at hx' ⊢
              simp [hx', hv]
            case measure => simp [intOf]
          · have e1 : ((F : Int) == 0) = false := by simp; omega
            have e2 : (!((F : Int) == 0)) = true := by rw [e1]; rfl
            have hv : F = f' := by rw [← he, orElse_pos hE]
            have HV := Lib.hid hv
            clear hv he hE hx' hx
            go_wp2
            go_roundw
            case rel =>
              refine ⟨1, F, x1, x2, x3, by omega, rfl, (hBo.store 2 _).alloc _, Lib.hid ?_, (hchg.setCell _ (.inl (by simp))).alloc _⟩
              have hx' : x0 = (if 0 < 0 then f' else f) ∧ x1 = (if 1 < 0 then c' else c) ∧ x2 = (if 2 < 0 then a' else a) ∧ x3 = (if 3 < 0 then l' else l) := HX
              have hv : F = f' := HV
              simp at hx' ⊢
              simp [hx', hv]
            case measure => simp [intOf]
        · have he : orElse C c = c' := HC
          have hx' : x0 = (if 0 < 1 then f' else f) ∧ x1 = (if 1 < 1 then c' else c) ∧ x2 = (if 2 < 1 then a' else a) ∧ x3 = (if 3 < 1 then l' else l) := hx
          have HX := Lib.hid hx'
          by_cases hE : C = 0
          · have e1 : ((C : Int) == 0) = true := by simp [hE]
            have e2 : (!((C : Int) == 0)) = false := by rw [e1]; rfl
            have hv : c = c' := by rw [← he, hE]; rfl
            have HV := Lib.hid hv
            clear hv he hE hx' hx
            go_wp2
            go_roundw
            case rel =>
              refine ⟨2, x0, x1, x2, x3, by omega, rfl, hBo.alloc _, Lib.hid ?_, hchg.alloc _⟩
              have hx' : x0 = (if 0 < 1 then f' else f) ∧ x1 = (if 1 < 1 then c' else c) ∧ x2 = (if 2 < 1 then a' else a) ∧ x3 = (if 3 < 1 then l' else l) := HX
              have hv : c = c' := HV
              simp at hx' ⊢
              simp [hx', hv]
            case measure => simp [intOf]
          · have e1 : ((C : Int) == 0) = false := by simp; omega
            have e2 : (!((C : Int) == 0)) = true := by rw [e1]; rfl
            have hv : C = c' := by rw [← he, orElse_pos hE]
            have HV := Lib.hid hv
            clear hv he hE hx' hx
            go_wp2
            go_roundw
            case rel =>
              refine ⟨2, x0, C, x2, x3, by omega, rfl, (hBo.store 3 _).alloc _, Lib.hid ?_, (hchg.setCell _ (.inl (by simp))).alloc _⟩
              have hx' : x0 = (if 0 < 1 then f' else f) ∧ x1 = (if 1 < 1 then c' else c) ∧ x2 = (if 2 < 1 then a' else a) ∧ x3 = (if 3 < 1 then l' else l) := HX
              have hv : C = c' := HV
              simp at hx' ⊢
              simp [hx', hv]
            case measure => simp [intOf]
        · have he : orElse A a = a' := HA
          have hx' : x0 = (if 0 < 2 then f' else f) ∧ x1 = (if 1 < 2 then c' else c) ∧ x2 = (if 2 < 2 then a' else a) ∧ x3 = (if 3 < 2 then l' else l) := hx
          have HX := Lib.hid hx'
          by_cases hE : A = 0
          · have e1 : ((A : Int) == 0) = true := by simp [hE]
            have e2 : (!((A : Int) == 0)) = false := by rw [e1]; rfl
            have hv : a = a' := by rw [← he, hE]; rfl
            have HV := Lib.hid hv
            clear hv he hE hx' hx
            go_wp2
            go_roundw
            case rel =>
              refine ⟨3, x0, x1, x2, x3, by omega, rfl, hBo.alloc _, Lib.hid ?_, hchg.alloc _⟩
              have hx' : x0 = (if 0 < 2 then f' else f) ∧ x1 = (if 1 < 2 then c' else c) ∧ x2 = (if 2 < 2 then a' else a) ∧ x3 = (if 3 < 2 then l' else l) := HX
              have hv : a = a' := HV
              simp at hx' ⊢
              simp [hx', hv]
            case measure => simp [intOf]
          · have e1 : ((A : Int) == 0) = false := by simp; omega
            have e2 : (!((A : Int) == 0)) = true := by rw [e1]; rfl
            have hv : A = a' := by rw [← he, orElse_pos hE]
            have HV := Lib.hid hv
            clear hv he hE hx' hx
            go_wp2
            go_roundw
            case rel =>
              refine ⟨3, x0, x1, A, x3, by omega, rfl, (hBo.store 4 _).alloc _, Lib.hid ?_, (hchg.setCell _ (.inl (by simp))).alloc _⟩
              have hx' : x0 = (if 0 < 2 then f' else f) ∧ x1 = (if 1 < 2 then c' else c) ∧ x2 = (if 2 < 2 then a' else a) ∧ x3 = (if 3 < 2 then l' else l) := HX
              have hv : A = a' := HV
              simp at hx' ⊢
              simp [hx', hv]
            case measure => simp [intOf]
        · have he : orElse L l = l' := HL
          have hx' : x0 = (if 0 < 3 then f' else f) ∧ x1 = (if 1 < 3 then c' else c) ∧ x2 = (if 2 < 3 then a' else a) ∧ x3 = (if 3 < 3 then l' else l) := hx
          have HX := Lib.hid hx'
          by_cases hE : L = 0
          · have e1 : ((L : Int) == 0) = true := by simp [hE]
            have e2 : (!((L : Int) == 0)) = false := by rw [e1]; rfl
            have hv : l = l' := by rw [← he, hE]; rfl
            have HV := Lib.hid hv
            clear hv he hE hx' hx
            go_wp2
            go_roundw
            case rel =>
              refine ⟨4, x0, x1, x2, x3, by omega, rfl, hBo.alloc _, Lib.hid ?_, hchg.alloc _⟩
              have hx' : x0 = (if 0 < 3 then f' else f) ∧ x1 = (if 1 < 3 then c' else c) ∧ x2 = (if 2 < 3 then a' else a) ∧ x3 = (if 3 < 3 then l' else l) := HX
              have hv : l = l' := HV
              simp at hx' ⊢
              simp [hx', hv]
            case measure => simp [intOf]
          · have e1 : ((L : Int) == 0) = false := by simp; omega
            have e2 : (!((L : Int) == 0)) = true := by rw [e1]; rfl
            have hv : L = l' := by rw [← he, orElse_pos hE]
            have HV := Lib.hid hv
            clear hv he hE hx' hx
            go_wp2
            go_roundw
            case rel =>
              refine ⟨4, x0, x1, x2, L, by omega, rfl, (hBo.store 5 _).alloc _, Lib.hid ?_, (hchg.setCell _ (.inl (by simp))).alloc _⟩
              have hx' : x0 = (if 0 < 3 then f' else f) ∧ x1 = (if 1 < 3 then c' else c) ∧ x2 = (if 2 < 3 then a' else a) ∧ x3 = (if 3 < 3 then l' else l) := HX
              have hv : L = l' := HV
              simp at hx' ⊢
              simp [hx', hv]
            case measure => simp [intOf]
        · have hx' : x0 = (if 0 < 4 then f' else f) ∧ x1 = (if 1 < 4 then c' else c) ∧ x2 = (if 2 < 4 then a' else a) ∧ x3 = (if 3 < 4 then l' else l) := hx
          simp at hx'
          obtain ⟨rfl, rfl, rfl, rfl⟩ := hx'
          have hbr : Below w.heap.size w wr := hV.trans (hchg.below hV.size (by intro q hq; simp at hq; omega))
          clear hx
          go_wp2_with fail
          refine (HOK.out _).mono ?_
          rintro e w2 ⟨rfl, hb2⟩
          have hB2 := hBo.below hb2
          have hR2 := hRr.below hb2
          have hb3 := later_ hbr hb2
          clear o0 o1 o2 o3 o4 o5 z0 z1 z2 z3 z4 z5 p0 p1 p2 p3 p4 p5 p6 p7 hQr hBo hRr hQ hR hO hchg hV hbr hb2
          have o0 := hB2.cell 0
          have r0 := hR2.cell 0
          have z0 := hR2.free 0
          have o1 := hB2.cell 1
          have r1 := hR2.cell 1
          have z1 := hR2.free 1
          have o2 := hB2.cell 2
          have r2 := hR2.cell 2
          have z2 := hR2.free 2
          have o3 := hB2.cell 3
          have r3 := hR2.cell 3
          have z3 := hR2.free 3
          have o4 := hB2.cell 4
          have r4 := hR2.cell 4
          have z4 := hR2.free 4
          have o5 := hB2.cell 5
          have r5 := hR2.cell 5
          have z5 := hR2.free 5
          simp only [List.getElem?_cons_zero, List.getElem?_cons_succ] at o0 o1 o2 o3 o4 o5 r0 r1 r2 r3 r4 r5
          clear hB2 hR2 HOK
          go_wp2
          refine bodyPost_ret (v := .tuple #[.agg #[.int .i64 (g' : Int), .slice none 0 0, .int .u64 (x0 : Int), .int .u64 (x1 : Int), .int .u64 (x2 : Int), .int .u64 (x3 : Int)], .bool true]) (by simp [results, go_sem, *]) rfl ⟨rfl, ?_⟩
          exact (((((hb3.setCell (by simp; omega) _).setCell (by simp; omega) _).setCell (by simp; omega) _).setCell (by simp; omega) _).setCell (by simp; omega) _).setCell (by simp; omega) _
end Go.Proofs.YthepokgkfaocmaaGreatDoor
