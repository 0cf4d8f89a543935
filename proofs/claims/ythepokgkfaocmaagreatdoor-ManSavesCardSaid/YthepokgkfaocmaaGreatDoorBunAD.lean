/- Texts EditD, EditE, EditF, PlainMan, PlainRest in one. No conditions. -/
import Derived.Test.YthepokgkfaocmaaGreatDoorBunAC
import Derived.Deep.CutBlock
import Derived.Test.YthepokgkfaocmaaGreatDoorBunAA

/-
  The walk of edit.Apply, for Views and changes that speak of no files.
-/
namespace Go.Proofs.YthepokgkfaocmaaGreatDoor
open Go.RowKit

theorem orElse_zero (b : Nat) : orElse 0 b = b := rfl
theorem orElse_pos {a : Nat} (h : a ≠ 0) (b : Nat) : orElse a b = a := if_neg h

set_option maxRecDepth 100000 in
set_option maxHeartbeats 2000000 in
theorem apply_bare (g f c a l G F C A L : Nat) (w : World) (h1 : 1 ≤ orElse G g) (h2 : orElse G g ≤ 1073741824) (hb : bigs [orElse F f, orElse C c, orElse A a, orElse L l] = false) :
    Calls Tryz.prog 44 #[vwV g f c a l, edV G F C A L] w fun e w' => e = .returned (.tuple #[vwV (orElse G g : Nat) (orElse F f : Nat) (orElse C c : Nat) (orElse A a : Nat) (orElse L l : Nat), .bool true]) ∧ Below w.heap.size w w' := by
  obtain ⟨g', hg'⟩ : ∃ x, orElse G g = x := ⟨_, rfl⟩
  obtain ⟨f', hf'⟩ : ∃ x, orElse F f = x := ⟨_, rfl⟩
  obtain ⟨c', hc'⟩ : ∃ x, orElse C c = x := ⟨_, rfl⟩
  obtain ⟨a', ha'⟩ : ∃ x, orElse A a = x := ⟨_, rfl⟩
  obtain ⟨l', hl'⟩ : ∃ x, orElse L l = x := ⟨_, rfl⟩
  rw [hg'] at h1 h2 ⊢
  rw [hf', hc', ha', hl'] at hb ⊢
  have hok := fun W => ok_bare (g' : Int) f' c' a' l' W (by omega) (by omega) hb
  have HOK := Lib.hid hok
  have HG := Lib.hid hg'
  have HF := Lib.hid hf'
  have HC := Lib.hid hc'
  have HA := Lib.hid ha'
  have HL := Lib.hid hl'
  clear hok hb hg' hf' hc' ha' hl'
  unfold vwV edV at *
  go_enter Tryz.func44, Tryz.ntmps44
  go_wp2
  have hbw : ∀ o, Below w.heap.size w ((((w.alloc (.cells #[.int .i64 (g : Int), .slice none 0 0, .int .u64 (f : Int), .int .u64 (c : Int), .int .u64 (a : Int), .int .u64 (l : Int)] 31)).alloc
      (.cells #[.slice none 0 0, .slice none 0 0, .int .i64 (G : Int), .int .u64 (F : Int), .int .u64 (C : Int), .int .u64 (A : Int), .int .u64 (L : Int)] 39)).alloc
      (.cells #[.int .i64 0, .slice none 0 0, .int .u64 0, .int .u64 0, .int .u64 0, .int .u64 0] 31)).alloc o) := fun o =>
    ((((Below.refl _ _).alloc (Nat.le_refl _) _).alloc (by simp) _).alloc (by simp; omega) _).alloc (by simp; omega) _
  have HBW := Lib.hid hbw
  clear hbw
  go_loopw [20] (fun x wr => x = .int .i64 0 ∧ wr = ((((w.alloc (.cells #[.int .i64 (g : Int), .slice none 0 0, .int .u64 (f : Int), .int .u64 (c : Int), .int .u64 (a : Int), .int .u64 (l : Int)] 31)).alloc
      (.cells #[.slice none 0 0, .slice none 0 0, .int .i64 (G : Int), .int .u64 (F : Int), .int .u64 (C : Int), .int .u64 (A : Int), .int .u64 (L : Int)] 39)).alloc
      (.cells #[.int .i64 0, .slice none 0 0, .int .u64 0, .int .u64 0, .int .u64 0, .int .u64 0] 31)).alloc
      (.cells #[.int .i64 (g : Int), .slice none 0 0, .int .u64 (f : Int), .int .u64 (c : Int), .int .u64 (a : Int), .int .u64 (l : Int)] 31))) (fun _ _ => 0)
  case atStart => exact ⟨rfl, rfl⟩
  case round =>
    obtain ⟨rfl, rfl⟩ := hrel
    go_wp2_with fail
    refine (clip_none _).mono ?_
    rintro e w1 ⟨rfl, rfl⟩
    go_upto_if 48 with (fail)
    go_cut [] (fun wx => wx = ((((w.alloc (.cells #[.int .i64 (g : Int), .slice none 0 0, .int .u64 (f : Int), .int .u64 (c : Int), .int .u64 (a : Int), .int .u64 (l : Int)] 31)).alloc
      (.cells #[.slice none 0 0, .slice none 0 0, .int .i64 (G : Int), .int .u64 (F : Int), .int .u64 (C : Int), .int .u64 (A : Int), .int .u64 (L : Int)] 39)).alloc
      (.cells #[.int .i64 0, .slice none 0 0, .int .u64 0, .int .u64 0, .int .u64 0, .int .u64 0] 31)).alloc
      (.cells #[.int .i64 (g' : Int), .slice none 0 0, .int .u64 (f : Int), .int .u64 (c : Int), .int .u64 (a : Int), .int .u64 (l : Int)] 31)))
    case first =>
      have hg' : orElse G g = g' := HG
      by_cases hG : G = 0
      · have e1 : ((G : Int) == 0) = true := by simp [hG]
        have e2 : (!((G : Int) == 0)) = false := by rw [e1]; rfl
        obtain rfl : g = g' := by rw [← hg', hG]; rfl
        clear hG hg'
        go_wp2_with fail
        go_meet
        rfl
      · have e1 : ((G : Int) == 0) = false := by simp; omega
        have e2 : (!((G : Int) == 0)) = true := by rw [e1]; rfl
        obtain rfl : G = g' := by rw [← hg', orElse_pos hG]
        clear hG hg'
        go_wp2_with fail
        go_meet
        rfl
    case rest =>
      subst hcut
      go_wp2
      have hV := (HBW (.cells #[.int .i64 (g' : Int), .slice none 0 0, .int .u64 (f : Int), .int .u64 (c : Int), .int .u64 (a : Int), .int .u64 (l : Int)] 31)).alloc (by simp; omega) (.cells #[.int .u64 (F : Int), .pointer (some ⟨w.heap.size + 1 + 1 + 1, 2, none⟩), .int .u64 (C : Int), .pointer (some ⟨w.heap.size + 1 + 1 + 1, 3, none⟩), .int .u64 (A : Int), .pointer (some ⟨w.heap.size + 1 + 1 + 1, 4, none⟩), .int .u64 (L : Int), .pointer (some ⟨w.heap.size + 1 + 1 + 1, 5, none⟩)] 137)
      have hO := (BoxO.new (((w.alloc (.cells #[.int .i64 (g : Int), .slice none 0 0, .int .u64 (f : Int), .int .u64 (c : Int), .int .u64 (a : Int), .int .u64 (l : Int)] 31)).alloc
        (.cells #[.slice none 0 0, .slice none 0 0, .int .i64 (G : Int), .int .u64 (F : Int), .int .u64 (C : Int), .int .u64 (A : Int), .int .u64 (L : Int)] 39)).alloc
        (.cells #[.int .i64 0, .slice none 0 0, .int .u64 0, .int .u64 0, .int .u64 0, .int .u64 0] 31))
        #[.int .i64 (g' : Int), .slice none 0 0, .int .u64 (f : Int), .int .u64 (c : Int), .int .u64 (a : Int), .int .u64 (l : Int)] 31).alloc (.cells #[.int .u64 (F : Int), .pointer (some ⟨w.heap.size + 1 + 1 + 1, 2, none⟩), .int .u64 (C : Int), .pointer (some ⟨w.heap.size + 1 + 1 + 1, 3, none⟩), .int .u64 (A : Int), .pointer (some ⟨w.heap.size + 1 + 1 + 1, 4, none⟩), .int .u64 (L : Int), .pointer (some ⟨w.heap.size + 1 + 1 + 1, 5, none⟩)] 137)
      have hR := ((BoxO.new ((w.alloc (.cells #[.int .i64 (g : Int), .slice none 0 0, .int .u64 (f : Int), .int .u64 (c : Int), .int .u64 (a : Int), .int .u64 (l : Int)] 31)).alloc
        (.cells #[.slice none 0 0, .slice none 0 0, .int .i64 (G : Int), .int .u64 (F : Int), .int .u64 (C : Int), .int .u64 (A : Int), .int .u64 (L : Int)] 39))
        #[.int .i64 0, .slice none 0 0, .int .u64 0, .int .u64 0, .int .u64 0, .int .u64 0] 31).alloc (.cells #[.int .i64 (g' : Int), .slice none 0 0, .int .u64 (f : Int), .int .u64 (c : Int), .int .u64 (a : Int), .int .u64 (l : Int)] 31)).alloc (.cells #[.int .u64 (F : Int), .pointer (some ⟨w.heap.size + 1 + 1 + 1, 2, none⟩), .int .u64 (C : Int), .pointer (some ⟨w.heap.size + 1 + 1 + 1, 3, none⟩), .int .u64 (A : Int), .pointer (some ⟨w.heap.size + 1 + 1 + 1, 4, none⟩), .int .u64 (L : Int), .pointer (some ⟨w.heap.size + 1 + 1 + 1, 5, none⟩)] 137)
      have hQ := BoxO.new ((((w.alloc (.cells #[.int .i64 (g : Int), .slice none 0 0, .int .u64 (f : Int), .int .u64 (c : Int), .int .u64 (a : Int), .int .u64 (l : Int)] 31)).alloc
        (.cells #[.slice none 0 0, .slice none 0 0, .int .i64 (G : Int), .int .u64 (F : Int), .int .u64 (C : Int), .int .u64 (A : Int), .int .u64 (L : Int)] 39)).alloc
        (.cells #[.int .i64 0, .slice none 0 0, .int .u64 0, .int .u64 0, .int .u64 0, .int .u64 0] 31)).alloc
        (.cells #[.int .i64 (g' : Int), .slice none 0 0, .int .u64 (f : Int), .int .u64 (c : Int), .int .u64 (a : Int), .int .u64 (l : Int)] 31)) #[.int .u64 (F : Int), .pointer (some ⟨w.heap.size + 1 + 1 + 1, 2, none⟩), .int .u64 (C : Int), .pointer (some ⟨w.heap.size + 1 + 1 + 1, 3, none⟩), .int .u64 (A : Int), .pointer (some ⟨w.heap.size + 1 + 1 + 1, 4, none⟩), .int .u64 (L : Int), .pointer (some ⟨w.heap.size + 1 + 1 + 1, 5, none⟩)] 137
      simp only [World.size_alloc] at hO hR hQ
      change Code.wp _ _ _ _ (((((w.alloc (.cells #[.int .i64 (g : Int), .slice none 0 0, .int .u64 (f : Int), .int .u64 (c : Int), .int .u64 (a : Int), .int .u64 (l : Int)] 31)).alloc
        (.cells #[.slice none 0 0, .slice none 0 0, .int .i64 (G : Int), .int .u64 (F : Int), .int .u64 (C : Int), .int .u64 (A : Int), .int .u64 (L : Int)] 39)).alloc
        (.cells #[.int .i64 0, .slice none 0 0, .int .u64 0, .int .u64 0, .int .u64 0, .int .u64 0] 31)).alloc
        (.cells #[.int .i64 (g' : Int), .slice none 0 0, .int .u64 (f : Int), .int .u64 (c : Int), .int .u64 (a : Int), .int .u64 (l : Int)] 31)).alloc (.cells #[.int .u64 (F : Int), .pointer (some ⟨w.heap.size + 1 + 1 + 1, 2, none⟩), .int .u64 (C : Int), .pointer (some ⟨w.heap.size + 1 + 1 + 1, 3, none⟩), .int .u64 (A : Int), .pointer (some ⟨w.heap.size + 1 + 1 + 1, 4, none⟩), .int .u64 (L : Int), .pointer (some ⟨w.heap.size + 1 + 1 + 1, 5, none⟩)] 137))
      generalize (((((w.alloc (.cells #[.int .i64 (g : Int), .slice none 0 0, .int .u64 (f : Int), .int .u64 (c : Int), .int .u64 (a : Int), .int .u64 (l : Int)] 31)).alloc
        (.cells #[.slice none 0 0, .slice none 0 0, .int .i64 (G : Int), .int .u64 (F : Int), .int .u64 (C : Int), .int .u64 (A : Int), .int .u64 (L : Int)] 39)).alloc
        (.cells #[.int .i64 0, .slice none 0 0, .int .u64 0, .int .u64 0, .int .u64 0, .int .u64 0] 31)).alloc
        (.cells #[.int .i64 (g' : Int), .slice none 0 0, .int .u64 (f : Int), .int .u64 (c : Int), .int .u64 (a : Int), .int .u64 (l : Int)] 31)).alloc (.cells #[.int .u64 (F : Int), .pointer (some ⟨w.heap.size + 1 + 1 + 1, 2, none⟩), .int .u64 (C : Int), .pointer (some ⟨w.heap.size + 1 + 1 + 1, 3, none⟩), .int .u64 (A : Int), .pointer (some ⟨w.heap.size + 1 + 1 + 1, 4, none⟩), .int .u64 (L : Int), .pointer (some ⟨w.heap.size + 1 + 1 + 1, 5, none⟩)] 137)) = V at *
      clear HBW
      go_loopw [70] (fun i wr => ∃ k x0 x1 x2 x3 : Nat, k ≤ 4 ∧ i = .int .i64 (k : Int) ∧ BoxO wr 31 (w.heap.size + 1 + 1 + 1) [.int .i64 (g' : Int), .slice none 0 0, .int .u64 (x0 : Int), .int .u64 (x1 : Int), .int .u64 (x2 : Int), .int .u64 (x3 : Int)] ∧
        Hid (x0 = (if 0 < k then f' else f) ∧ x1 = (if 1 < k then c' else c) ∧ x2 = (if 2 < k then a' else a) ∧ x3 = (if 3 < k then l' else l)) ∧ Chg [w.heap.size + 1 + 1 + 1] V wr) (fun i _ => 4 - (intOf i).toNat)
      case atStart => exact ⟨0, f, c, a, l, by omega, rfl, hO, Lib.hid ⟨rfl, rfl, rfl, rfl⟩, Chg.refl _ _⟩
      case round =>
        obtain ⟨k, x0, x1, x2, x3, hk, rfl, hBo, hx, hchg⟩ := hrel
        have hQr := hQ.chg hchg (by simp)
        have hRr := hR.chg hchg (by simp)
        have hlt := hBo.lt
        have o0 := hBo.cell 0
        have z0 := hBo.free 0
        have o1 := hBo.cell 1
        have z1 := hBo.free 1
        have o2 := hBo.cell 2
        have z2 := hBo.free 2
        have o3 := hBo.cell 3
        have z3 := hBo.free 3
        have o4 := hBo.cell 4
        have z4 := hBo.free 4
        have o5 := hBo.cell 5
        have z5 := hBo.free 5
        have p0 := hQr.cell 0
        have p1 := hQr.cell 1
        have p2 := hQr.cell 2
        have p3 := hQr.cell 3
        have p4 := hQr.cell 4
        have p5 := hQr.cell 5
        have p6 := hQr.cell 6
        have p7 := hQr.cell 7
        simp only [List.getElem?_cons_zero, List.getElem?_cons_succ] at o0 o1 o2 o3 o4 o5 p0 p1 p2 p3 p4 p5 p6 p7
        rcases (by omega : k = 0 ∨ k = 1 ∨ k = 2 ∨ k = 3 ∨ k = 4) with rfl | rfl | rfl | rfl | rfl
        · have he : orElse F f = f' := HF
          have hx' : x0 = (if 0 < 0 then f' else f) ∧ x1 = (if 1 < 0 then c' else c) ∧ x2 = (if 2 < 0 then a' else a) ∧ x3 = (if 3 < 0 then l' else l) := hx
          have HX := Lib.hid hx'
          by_cases hE : F = 0
          · have e1 : ((F : Int) == 0) = true := by simp [hE]
            have e2 : (!((F : Int) == 0)) = false := by rw [e1]; rfl
            have hv : f = f' := by rw [← he, hE]; rfl
            have HV := Lib.hid hv
            clear hv he hE hx' hx
            go_wp2
            go_roundw
            case rel =>
              refine ⟨1, x0, x1, x2, x3, by omega, rfl, hBo.alloc _, Lib.hid ?_, hchg.alloc _⟩
              have hx' : x0 = (if 0 < 0 then f' else f) ∧ x1 = (if 1 < 0 then c' else c) ∧ x2 = (if 2 < 0 then a' else a) ∧ x3 = (if 3 < 0 then l' else l) := HX
              have hv : f = f' := HV
              simp at hx' ⊢
              simp [hx', hv]
            case measure => simp [intOf]
          · have e1 : ((F : Int) == 0) = false := by simp; omega
            have e2 : (!((F : Int) == 0)) = true := by rw [e1]; rfl
            have hv : F = f' := by rw [← he, orElse_pos hE]
            have HV := Lib.hid hv
            clear hv he hE hx' hx
            go_wp2
            go_roundw
            case rel =>
              refine ⟨1, F, x1, x2, x3, by omega, rfl, (hBo.store 2 _).alloc _, Lib.hid ?_, (hchg.setCell _ (.inl (by simp))).alloc _⟩
              have hx' : x0 = (if 0 < 0 then f' else f) ∧ x1 = (if 1 < 0 then c' else c) ∧ x2 = (if 2 < 0 then a' else a) ∧ x3 = (if 3 < 0 then l' else l) := HX
              have hv : F = f' := HV
              simp at hx' ⊢
              simp [hx', hv]
            case measure => simp [intOf]
        · have he : orElse C c = c' := HC
          have hx' : x0 = (if 0 < 1 then f' else f) ∧ x1 = (if 1 < 1 then c' else c) ∧ x2 = (if 2 < 1 then a' else a) ∧ x3 = (if 3 < 1 then l' else l) := hx
          have HX := Lib.hid hx'
          by_cases hE : C = 0
          · have e1 : ((C : Int) == 0) = true := by simp [hE]
            have e2 : (!((C : Int) == 0)) = false := by rw [e1]; rfl
            have hv : c = c' := by rw [← he, hE]; rfl
            have HV := Lib.hid hv
            clear hv he hE hx' hx
            go_wp2
            go_roundw
            case rel =>
              refine ⟨2, x0, x1, x2, x3, by omega, rfl, hBo.alloc _, Lib.hid ?_, hchg.alloc _⟩
              have hx' : x0 = (if 0 < 1 then f' else f) ∧ x1 = (if 1 < 1 then c' else c) ∧ x2 = (if 2 < 1 then a' else a) ∧ x3 = (if 3 < 1 then l' else l) := HX
              have hv : c = c' := HV
              simp at hx' ⊢
              simp [hx', hv]
            case measure => simp [intOf]
          · have e1 : ((C : Int) == 0) = false := by simp; omega
            have e2 : (!((C : Int) == 0)) = true := by rw [e1]; rfl
            have hv : C = c' := by rw [← he, orElse_pos hE]
            have HV := Lib.hid hv
            clear hv he hE hx' hx
            go_wp2
            go_roundw
            case rel =>
              refine ⟨2, x0, C, x2, x3, by omega, rfl, (hBo.store 3 _).alloc _, Lib.hid ?_, (hchg.setCell _ (.inl (by simp))).alloc _⟩
              have hx' : x0 = (if 0 < 1 then f' else f) ∧ x1 = (if 1 < 1 then c' else c) ∧ x2 = (if 2 < 1 then a' else a) ∧ x3 = (if 3 < 1 then l' else l) := HX
              have hv : C = c' := HV
              simp at hx' ⊢
              simp [hx', hv]
            case measure => simp [intOf]
        · have he : orElse A a = a' := HA
          have hx' : x0 = (if 0 < 2 then f' else f) ∧ x1 = (if 1 < 2 then c' else c) ∧ x2 = (if 2 < 2 then a' else a) ∧ x3 = (if 3 < 2 then l' else l) := hx
          have HX := Lib.hid hx'
          by_cases hE : A = 0
          · have e1 : ((A : Int) == 0) = true := by simp [hE]
            have e2 : (!((A : Int) == 0)) = false := by rw [e1]; rfl
            have hv : a = a' := by rw [← he, hE]; rfl
            have HV := Lib.hid hv
            clear hv he hE hx' hx
            go_wp2
            go_roundw
            case rel =>
              refine ⟨3, x0, x1, x2, x3, by omega, rfl, hBo.alloc _, Lib.hid ?_, hchg.alloc _⟩
              have hx' : x0 = (if 0 < 2 then f' else f) ∧ x1 = (if 1 < 2 then c' else c) ∧ x2 = (if 2 < 2 then a' else a) ∧ x3 = (if 3 < 2 then l' else l) := HX
              have hv : a = a' := HV
              simp at hx' ⊢
              simp [hx', hv]
            case measure => simp [intOf]
          · have e1 : ((A : Int) == 0) = false := by simp; omega
            have e2 : (!((A : Int) == 0)) = true := by rw [e1]; rfl
            have hv : A = a' := by rw [← he, orElse_pos hE]
            have HV := Lib.hid hv
            clear hv he hE hx' hx
            go_wp2
            go_roundw
            case rel =>
              refine ⟨3, x0, x1, A, x3, by omega, rfl, (hBo.store 4 _).alloc _, Lib.hid ?_, (hchg.setCell _ (.inl (by simp))).alloc _⟩
              have hx' : x0 = (if 0 < 2 then f' else f) ∧ x1 = (if 1 < 2 then c' else c) ∧ x2 = (if 2 < 2 then a' else a) ∧ x3 = (if 3 < 2 then l' else l) := HX
              have hv : A = a' := HV
              simp at hx' ⊢
              simp [hx', hv]
            case measure => simp [intOf]
        · have he : orElse L l = l' := HL
          have hx' : x0 = (if 0 < 3 then f' else f) ∧ x1 = (if 1 < 3 then c' else c) ∧ x2 = (if 2 < 3 then a' else a) ∧ x3 = (if 3 < 3 then l' else l) := hx
          have HX := Lib.hid hx'
          by_cases hE : L = 0
          · have e1 : ((L : Int) == 0) = true := by simp [hE]
            have e2 : (!((L : Int) == 0)) = false := by rw [e1]; rfl
            have hv : l = l' := by rw [← he, hE]; rfl
            have HV := Lib.hid hv
            clear hv he hE hx' hx
            go_wp2
            go_roundw
            case rel =>
              refine ⟨4, x0, x1, x2, x3, by omega, rfl, hBo.alloc _, Lib.hid ?_, hchg.alloc _⟩
              have hx' : x0 = (if 0 < 3 then f' else f) ∧ x1 = (if 1 < 3 then c' else c) ∧ x2 = (if 2 < 3 then a' else a) ∧ x3 = (if 3 < 3 then l' else l) := HX
              have hv : l = l' := HV
              simp at hx' ⊢
              simp [hx', hv]
            case measure => simp [intOf]
          · have e1 : ((L : Int) == 0) = false := by simp; omega
            have e2 : (!((L : Int) == 0)) = true := by rw [e1]; rfl
            have hv : L = l' := by rw [← he, orElse_pos hE]
            have HV := Lib.hid hv
            clear hv he hE hx' hx
            go_wp2
            go_roundw
            case rel =>
              refine ⟨4, x0, x1, x2, L, by omega, rfl, (hBo.store 5 _).alloc _, Lib.hid ?_, (hchg.setCell _ (.inl (by simp))).alloc _⟩
              have hx' : x0 = (if 0 < 3 then f' else f) ∧ x1 = (if 1 < 3 then c' else c) ∧ x2 = (if 2 < 3 then a' else a) ∧ x3 = (if 3 < 3 then l' else l) := HX
              have hv : L = l' := HV
              simp at hx' ⊢
              simp [hx', hv]
            case measure => simp [intOf]
        · have hx' : x0 = (if 0 < 4 then f' else f) ∧ x1 = (if 1 < 4 then c' else c) ∧ x2 = (if 2 < 4 then a' else a) ∧ x3 = (if 3 < 4 then l' else l) := hx
          simp at hx'
          obtain ⟨rfl, rfl, rfl, rfl⟩ := hx'
          have hbr : Below w.heap.size w wr := hV.trans (hchg.below hV.size (by intro q hq; simp at hq; omega))
          clear hx
          go_wp2_with fail
          refine (HOK.out _).mono ?_
          rintro e w2 ⟨rfl, hb2⟩
          have hB2 := hBo.below hb2
          have hR2 := hRr.below hb2
          have hb3 := later_ hbr hb2
          clear o0 o1 o2 o3 o4 o5 z0 z1 z2 z3 z4 z5 p0 p1 p2 p3 p4 p5 p6 p7 hQr hBo hRr hQ hR hO hchg hV hbr hb2
          have o0 := hB2.cell 0
          have r0 := hR2.cell 0
          have z0 := hR2.free 0
          have o1 := hB2.cell 1
          have r1 := hR2.cell 1
          have z1 := hR2.free 1
          have o2 := hB2.cell 2
          have r2 := hR2.cell 2
          have z2 := hR2.free 2
          have o3 := hB2.cell 3
          have r3 := hR2.cell 3
          have z3 := hR2.free 3
          have o4 := hB2.cell 4
          have r4 := hR2.cell 4
          have z4 := hR2.free 4
          have o5 := hB2.cell 5
          have r5 := hR2.cell 5
          have z5 := hR2.free 5
          simp only [List.getElem?_cons_zero, List.getElem?_cons_succ] at o0 o1 o2 o3 o4 o5 r0 r1 r2 r3 r4 r5
          clear hB2 hR2 HOK
          go_wp2
          refine bodyPost_ret (v := .tuple #[.agg #[.int .i64 (g' : Int), .slice none 0 0, .int .u64 (x0 : Int), .int .u64 (x1 : Int), .int .u64 (x2 : Int), .int .u64 (x3 : Int)], .bool true]) (by simp [results, go_sem, *]) rfl ⟨rfl, ?_⟩
          exact (((((hb3.setCell (by simp; omega) _).setCell (by simp; omega) _).setCell (by simp; omega) _).setCell (by simp; omega) _).setCell (by simp; omega) _).setCell (by simp; omega) _
end Go.Proofs.YthepokgkfaocmaaGreatDoor

/-
  The walk of edit.Read, for changes that speak of no files.
-/
namespace Go.Proofs.YthepokgkfaocmaaGreatDoor
open Go.RowKit

/-- The reader takes a number that stands there: with its block. -/
theorem rtake2 (B R : Nat) (hB : B ≤ R) (A : Option Addr) (N c : Nat) (n most : Nat) (r : List UInt8) (w : World) (hN : N ≤ 1000000000) (hNc : N ≤ c) (hn : n ≤ most) (hm : most < 18446744073709551616)
    (hR : BoxO w 193 R [.slice A N c, .bool true]) (hr : Row B w A N 1 (bts (Pn.put n ++ r))) :
    Calls Tryz.prog 128 #[.pointer (some ⟨R, 0, none⟩), .int .u64 (most : Int)] w fun e w' => ∃ A' N' c', e = .returned (.int .u64 (n : Int)) ∧ N' ≤ c' ∧ N' ≤ N ∧ Row B w' A' N' 1 (bts r) ∧ BoxO w' 193 R [.slice A' N' c', .bool true] ∧ Chg [R] w w' := by
  have h0 := hR.cell 0
  have h1 := hR.cell 1
  have hf := hR.free 0
  have ht := take_any A N c (Pn.put n ++ r) w (by omega) (hr.up (Nat.le_trans hB (Nat.le_of_lt hR.lt)))
  rw [Pn.take_put n r (by omega)] at ht
  obtain ⟨s, hs⟩ : ∃ s, (Pn.put n).length = s := ⟨_, rfl⟩
  have hs1 := (Pn.put_len n).1
  have hln := hr.btlen
  have hsN : s ≤ N := by rw [List.length_append] at hln; omega
  have hcut : ∀ A', (s < N → A' = A.map (·.add s)) → Row B w A' (N - s) 1 (bts r) := by
    intro A' hA
    have h := hr.cut (A' := A') hsN (Nat.le_refl N) (fun hlt => by rw [Nat.mul_one]; exact hA hlt)
    rw [Nat.mul_one, Nat.mul_one, ← bts_drop, ← bts_take, ← hs, List.drop_left] at h
    rwa [List.take_of_length_le (by rw [List.length_append] at hln; omega), hs] at h
  have hn' : ((most : Int) < (n : Int)) = False := by simp; omega
  rw [hs] at ht
  simp only [List.getElem?_cons_zero, List.getElem?_cons_succ] at h0 h1
  go_enter Tryz.func128, Tryz.ntmps128
  go_wp2_with fail
  refine ht.mono ?_
  rintro e w1 ⟨rfl, rfl⟩
  clear ht
  obtain ⟨A', hA'⟩ : ∃ A', (if c = s then A else Option.map (fun x => x.add s) A) = A' := ⟨_, rfl⟩
  have hrow := hcut A' (fun hlt => by rw [← hA', if_neg (by omega)])
  go_wp2
  go_ret
  exact ⟨A', N - s, c - s, rfl, by omega, by omega, hrow.setCell hB _, hR.store 0 _, chg_set w ⟨R, 0, none⟩ _⟩

set_option maxRecDepth 100000 in
set_option maxHeartbeats 2000000 in
theorem eread_bare (A : Option Addr) (N c0 : Nat) (g f c a l : Nat) (w : World) (hg : g ≤ 1073741824) (hb : bigs [f, c, a, l] = false) (hN : N ≤ 100000000) (hNc : N ≤ c0) (hr : Row w.heap.size w A N 1 (bts (Ed.bytes ⟨[], [], g, f, c, a, l⟩))) :
    Calls Tryz.prog 107 #[.slice A N c0] w fun e w' => e = .returned (.tuple #[edV g f c a l, .int .i64 0]) ∧ Below w.heap.size w w' := by
  have hbd : f ≤ 281474976710656 ∧ c ≤ 281474976710656 ∧ a ≤ 281474976710656 ∧ l ≤ 281474976710656 := by
    simp [bigs] at hb
    omega
  have hmay := fun W => may_bare g f c a l W hg hb
  have HMAY := Lib.hid hmay
  clear hmay hb
  have hbs : Ed.bytes ⟨[], [], g, f, c, a, l⟩ = Pn.put 0 ++ (Pn.put 0 ++ (Pn.put g ++ (Pn.put f ++ (Pn.put c ++ (Pn.put a ++ (Pn.put l ++ [])))))) := by simp [Ed.bytes, Pn.list]
  rw [hbs] at hr
  clear hbs
  have hln := hr.btlen
  have hN1 : 7 ≤ N := by
    have h0 := (Pn.put_len 0).1
    have h1 := (Pn.put_len g).1
    have h2 := (Pn.put_len f).1
    have h3 := (Pn.put_len c).1
    have h4 := (Pn.put_len a).1
    have h5 := (Pn.put_len l).1
    simp only [List.length_append, List.length_nil] at hln
    omega
  unfold edV at *
  obtain ⟨a0, rfl, _⟩ := hr.some_ (by rw [bts_length]; omega)
  have hr1 : Row w.heap.size w (some ⟨a0.block, a0.off + 1, none⟩) (N - 1) 1 (bts (Pn.put 0 ++ (Pn.put g ++ (Pn.put f ++ (Pn.put c ++ (Pn.put a ++ (Pn.put l ++ []))))))) := by
    have h := hr.cut (A' := some ⟨a0.block, a0.off + 1, none⟩) (k := 1) (by omega) (Nat.le_refl N) (fun hlt => rfl)
    rw [Nat.mul_one, Nat.mul_one, ← bts_drop, ← bts_take] at h
    have e1 : (Pn.put 0).length = 1 := by decide
    rw [← e1, List.drop_left, e1] at h
    rwa [List.take_of_length_le (by rw [List.length_append, e1] at hln; omega)] at h
  have hun := fun W (hW : Row W.heap.size W (some a0) N 1 (bts (Pn.put 0 ++ (Pn.put 0 ++ (Pn.put g ++ (Pn.put f ++ (Pn.put c ++ (Pn.put a ++ (Pn.put l ++ []))))))))) => unlist_none (some a0) N c0 _ 40 W (by omega) (by omega) hW
  have HUN := Lib.hid hun
  have HR := Lib.hid hr
  have HR1 := Lib.hid hr1
  clear hun hr hr1 hln
  go_enter Tryz.func107, Tryz.ntmps107
  go_wp2_with fail
  refine (HUN.out _ ((((HR.out).alloc (Nat.le_refl _) _).alloc (by simp) _).up (by simp; omega))).mono ?_
  rintro e w1 ⟨rfl, rfl⟩
  go_wp2
  go_loopw [23] (fun x wr => x = .int .i64 0 ∧ wr = ((w.alloc (.cells #[.slice none 0 0, .slice none 0 0, .int .i64 0, .int .u64 0, .int .u64 0, .int .u64 0, .int .u64 0] 39)).alloc (.cells #[.slice none 0 0, .slice none 0 0, .int .i64 0, .int .u64 0, .int .u64 0, .int .u64 0, .int .u64 0] 39))) (fun _ _ => 0)
  case atStart => exact ⟨rfl, rfl⟩
  case round =>
    obtain ⟨rfl, rfl⟩ := hrel
    go_wp2_with fail
    have hV : Below w.heap.size w (((w.alloc (.cells #[.slice none 0 0, .slice none 0 0, .int .i64 0, .int .u64 0, .int .u64 0, .int .u64 0, .int .u64 0] 39)).alloc (.cells #[.slice none 0 0, .slice none 0 0, .int .i64 0, .int .u64 0, .int .u64 0, .int .u64 0, .int .u64 0] 39)).alloc (.cells #[.slice (some ⟨a0.block, a0.off + 1, none⟩) (N - 1) (c0 - 1), .bool true] 193)) := (((Below.refl w.heap.size w).alloc (Nat.le_refl _) _).alloc (by simp) _).alloc (by simp; omega) _
    have hRes := ((BoxO.new w #[.slice none 0 0, .slice none 0 0, .int .i64 0, .int .u64 0, .int .u64 0, .int .u64 0, .int .u64 0] 39).alloc (.cells #[.slice none 0 0, .slice none 0 0, .int .i64 0, .int .u64 0, .int .u64 0, .int .u64 0, .int .u64 0] 39)).alloc (.cells #[.slice (some ⟨a0.block, a0.off + 1, none⟩) (N - 1) (c0 - 1), .bool true] 193)
    have hE := (BoxO.new (w.alloc (.cells #[.slice none 0 0, .slice none 0 0, .int .i64 0, .int .u64 0, .int .u64 0, .int .u64 0, .int .u64 0] 39)) #[.slice none 0 0, .slice none 0 0, .int .i64 0, .int .u64 0, .int .u64 0, .int .u64 0, .int .u64 0] 39).alloc (.cells #[.slice (some ⟨a0.block, a0.off + 1, none⟩) (N - 1) (c0 - 1), .bool true] 193)
    have hRd := BoxO.new ((w.alloc (.cells #[.slice none 0 0, .slice none 0 0, .int .i64 0, .int .u64 0, .int .u64 0, .int .u64 0, .int .u64 0] 39)).alloc (.cells #[.slice none 0 0, .slice none 0 0, .int .i64 0, .int .u64 0, .int .u64 0, .int .u64 0, .int .u64 0] 39)) #[.slice (some ⟨a0.block, a0.off + 1, none⟩) (N - 1) (c0 - 1), .bool true] 193
    have hr0 := (((HR1.out.alloc (Nat.le_refl _) (.cells #[.slice none 0 0, .slice none 0 0, .int .i64 0, .int .u64 0, .int .u64 0, .int .u64 0, .int .u64 0] 39)).alloc (by simp) (.cells #[.slice none 0 0, .slice none 0 0, .int .i64 0, .int .u64 0, .int .u64 0, .int .u64 0, .int .u64 0] 39)).alloc (by simp; omega) (.cells #[.slice (some ⟨a0.block, a0.off + 1, none⟩) (N - 1) (c0 - 1), .bool true] 193))
    simp only [World.size_alloc] at hE hRd
    generalize (((w.alloc (.cells #[.slice none 0 0, .slice none 0 0, .int .i64 0, .int .u64 0, .int .u64 0, .int .u64 0, .int .u64 0] 39)).alloc (.cells #[.slice none 0 0, .slice none 0 0, .int .i64 0, .int .u64 0, .int .u64 0, .int .u64 0, .int .u64 0] 39)).alloc (.cells #[.slice (some ⟨a0.block, a0.off + 1, none⟩) (N - 1) (c0 - 1), .bool true] 193)) = V at *
    clear HUN HR HR1
    generalize some (⟨a0.block, a0.off + 1, none⟩ : Addr) = A0 at *
    have hNk0 : N - 1 ≤ c0 - 1 := by omega
    have hNb0 : N - 1 ≤ 100000000 := by omega
    generalize N - 1 = N0 at *
    generalize c0 - 1 = k0 at *
    clear hN1 hNc hN
    refine (rtake2 w.heap.size (w.heap.size + 1 + 1) (by omega) A0 N0 k0 0 40 (Pn.put g ++ (Pn.put f ++ (Pn.put c ++ (Pn.put a ++ (Pn.put l ++ []))))) _ (by omega) hNk0 (by omega) (by decide) hRd hr0).mono ?_
    rintro e w1 ⟨A1, N1, k1, rfl, hNk1, hNl1, hr1, hRd1, hg1⟩
    have hNb1 : N1 ≤ 100000000 := by omega
    replace hE := hE.chg hg1 (by simp)
    replace hRes := hRes.chg hg1 (by simp; omega)
    replace hV := hV.trans (hg1.below hV.size (by intro q hq; simp at hq; omega))
    clear hRd hr0 hg1
    have hRd := hRd1
    clear hRd1
    go_wp2
    go_loopw [43] (fun x wr => x = .int .u64 0 ∧ wr = w1) (fun _ _ => 0)
    case atStart => exact ⟨rfl, rfl⟩
    case round =>
    obtain ⟨rfl, rfl⟩ := hrel
    go_wp2_with fail
    refine (rtake2 w.heap.size (w.heap.size + 1 + 1) (by omega) A1 N1 k1 g 1073741824 (Pn.put f ++ (Pn.put c ++ (Pn.put a ++ (Pn.put l ++ [])))) _ (by omega) hNk1 (by omega) (by decide) hRd hr1).mono ?_
    rintro e w2 ⟨A2, N2, k2, rfl, hNk2, hNl2, hr2, hRd2, hg2⟩
    have hNb2 : N2 ≤ 100000000 := by omega
    replace hE := hE.chg hg2 (by simp)
    replace hRes := hRes.chg hg2 (by simp; omega)
    replace hV := hV.trans (hg2.below hV.size (by intro q hq; simp at hq; omega))
    clear hRd hr1 hg2
    have hRd := hRd2
    clear hRd2
    have q2 := hE.cell 2
    have z2 := hE.free 2
    simp only [List.getElem?_cons_zero, List.getElem?_cons_succ] at q2
    go_wp2_with fail
    replace hE := hE.store 2 (.int .i64 (g : Int))
    replace hRes := hRes.chg (chg_set w2 ⟨w.heap.size + 1, 2, none⟩ (.int .i64 (g : Int))) (by simp)
    replace hRd := hRd.chg (chg_set w2 ⟨w.heap.size + 1, 2, none⟩ (.int .i64 (g : Int))) (by simp)
    replace hV := hV.setCell (p := ⟨w.heap.size + 1, 2, none⟩) (by simp) (.int .i64 (g : Int))
    replace hr2 := hr2.setCell (p := ⟨w.heap.size + 1, 2, none⟩) (by simp) (.int .i64 (g : Int))
    clear q2 z2
    refine (rtake2 w.heap.size (w.heap.size + 1 + 1) (by omega) A2 N2 k2 f 281474976710656 (Pn.put c ++ (Pn.put a ++ (Pn.put l ++ []))) _ (by omega) hNk2 (by omega) (by decide) hRd hr2).mono ?_
    rintro e w3 ⟨A3, N3, k3, rfl, hNk3, hNl3, hr3, hRd3, hg3⟩
    have hNb3 : N3 ≤ 100000000 := by omega
    replace hE := hE.chg hg3 (by simp)
    replace hRes := hRes.chg hg3 (by simp; omega)
    replace hV := hV.trans (hg3.below hV.size (by intro q hq; simp at hq; omega))
    clear hRd hr2 hg3
    have hRd := hRd3
    clear hRd3
    go_wp2_with fail
    refine (rtake2 w.heap.size (w.heap.size + 1 + 1) (by omega) A3 N3 k3 c 281474976710656 (Pn.put a ++ (Pn.put l ++ [])) _ (by omega) hNk3 (by omega) (by decide) hRd hr3).mono ?_
    rintro e w4 ⟨A4, N4, k4, rfl, hNk4, hNl4, hr4, hRd4, hg4⟩
    have hNb4 : N4 ≤ 100000000 := by omega
    replace hE := hE.chg hg4 (by simp)
    replace hRes := hRes.chg hg4 (by simp; omega)
    replace hV := hV.trans (hg4.below hV.size (by intro q hq; simp at hq; omega))
    clear hRd hr3 hg4
    have hRd := hRd4
    clear hRd4
    have q3 := hE.cell 3
    have z3 := hE.free 3
    simp only [List.getElem?_cons_zero, List.getElem?_cons_succ, List.set_cons_succ, List.set_cons_zero] at q3
    have q4 := hE.cell 4
    have z4 := hE.free 4
    simp only [List.getElem?_cons_zero, List.getElem?_cons_succ, List.set_cons_succ, List.set_cons_zero] at q4
    go_wp2_with fail
    replace hE := hE.store 3 (.int .u64 (f : Int))
    replace hRes := hRes.chg (chg_set w4 ⟨w.heap.size + 1, 3, none⟩ (.int .u64 (f : Int))) (by simp)
    replace hRd := hRd.chg (chg_set w4 ⟨w.heap.size + 1, 3, none⟩ (.int .u64 (f : Int))) (by simp)
    replace hV := hV.setCell (p := ⟨w.heap.size + 1, 3, none⟩) (by simp) (.int .u64 (f : Int))
    replace hr4 := hr4.setCell (p := ⟨w.heap.size + 1, 3, none⟩) (by simp) (.int .u64 (f : Int))
    clear q3 z3
    replace hE := hE.store 4 (.int .u64 (c : Int))
    replace hRes := hRes.chg (chg_set (w4.setCell ⟨w.heap.size + 1, 3, none⟩ (.int .u64 (f : Int))) ⟨w.heap.size + 1, 4, none⟩ (.int .u64 (c : Int))) (by simp)
    replace hRd := hRd.chg (chg_set (w4.setCell ⟨w.heap.size + 1, 3, none⟩ (.int .u64 (f : Int))) ⟨w.heap.size + 1, 4, none⟩ (.int .u64 (c : Int))) (by simp)
    replace hV := hV.setCell (p := ⟨w.heap.size + 1, 4, none⟩) (by simp) (.int .u64 (c : Int))
    replace hr4 := hr4.setCell (p := ⟨w.heap.size + 1, 4, none⟩) (by simp) (.int .u64 (c : Int))
    clear q4 z4
    refine (rtake2 w.heap.size (w.heap.size + 1 + 1) (by omega) A4 N4 k4 a 281474976710656 (Pn.put l ++ []) _ (by omega) hNk4 (by omega) (by decide) hRd hr4).mono ?_
    rintro e w5 ⟨A5, N5, k5, rfl, hNk5, hNl5, hr5, hRd5, hg5⟩
    have hNb5 : N5 ≤ 100000000 := by omega
    replace hE := hE.chg hg5 (by simp)
    replace hRes := hRes.chg hg5 (by simp; omega)
    replace hV := hV.trans (hg5.below hV.size (by intro q hq; simp at hq; omega))
    clear hRd hr4 hg5
    have hRd := hRd5
    clear hRd5
    go_wp2_with fail
    refine (rtake2 w.heap.size (w.heap.size + 1 + 1) (by omega) A5 N5 k5 l 281474976710656 [] _ (by omega) hNk5 (by omega) (by decide) hRd hr5).mono ?_
    rintro e w6 ⟨A6, N6, k6, rfl, hNk6, hNl6, hr6, hRd6, hg6⟩
    have hNb6 : N6 ≤ 100000000 := by omega
    replace hE := hE.chg hg6 (by simp)
    replace hRes := hRes.chg hg6 (by simp; omega)
    replace hV := hV.trans (hg6.below hV.size (by intro q hq; simp at hq; omega))
    clear hRd hr5 hg6
    have hRd := hRd6
    clear hRd6
    have q5 := hE.cell 5
    have z5 := hE.free 5
    simp only [List.getElem?_cons_zero, List.getElem?_cons_succ, List.set_cons_succ, List.set_cons_zero] at q5
    have q6 := hE.cell 6
    have z6 := hE.free 6
    simp only [List.getElem?_cons_zero, List.getElem?_cons_succ, List.set_cons_succ, List.set_cons_zero] at q6
    have o0 := hRd.cell 0
    have o1 := hRd.cell 1
    have q0 := hE.cell 0
    have q1 := hE.cell 1
    have q2 := hE.cell 2
    have q3 := hE.cell 3
    have q4 := hE.cell 4
    have hz6 : N6 = 0 := by have h := hr6.btlen; simpa using h.symm
    subst hz6
    simp only [List.getElem?_cons_zero, List.getElem?_cons_succ, List.set_cons_succ, List.set_cons_zero] at o0 o1 q0 q1 q2 q3 q4
    go_wp2_with fail
    refine (HMAY.out _).mono ?_
    rintro e w7 ⟨rfl, hbm⟩
    have hE7 := ((hE.store 5 (.int .u64 (a : Int))).store 6 (.int .u64 (l : Int))).below hbm
    have hRes7 := ((hRes.chg (chg_set w6 ⟨w.heap.size + 1, 5, none⟩ (.int .u64 (a : Int))) (by simp)).chg (chg_set _ ⟨w.heap.size + 1, 6, none⟩ (.int .u64 (l : Int))) (by simp)).below hbm
    have hV7 := later_ ((hV.setCell (p := ⟨w.heap.size + 1, 5, none⟩) (by simp) (.int .u64 (a : Int))).setCell (p := ⟨w.heap.size + 1, 6, none⟩) (by simp) (.int .u64 (l : Int))) hbm
    clear q5 z5 q6 z6 q0 q1 q2 q3 q4 o0 o1 hE hRes hV hbm hr6 hRd HMAY
    have q0 := hE7.cell 0
    have r0 := hRes7.cell 0
    have z0 := hRes7.free 0
    have q1 := hE7.cell 1
    have r1 := hRes7.cell 1
    have z1 := hRes7.free 1
    have q2 := hE7.cell 2
    have r2 := hRes7.cell 2
    have z2 := hRes7.free 2
    have q3 := hE7.cell 3
    have r3 := hRes7.cell 3
    have z3 := hRes7.free 3
    have q4 := hE7.cell 4
    have r4 := hRes7.cell 4
    have z4 := hRes7.free 4
    have q5 := hE7.cell 5
    have r5 := hRes7.cell 5
    have z5 := hRes7.free 5
    have q6 := hE7.cell 6
    have r6 := hRes7.cell 6
    have z6 := hRes7.free 6
    simp only [List.getElem?_cons_zero, List.getElem?_cons_succ, List.set_cons_succ, List.set_cons_zero] at q0 q1 q2 q3 q4 q5 q6 r0 r1 r2 r3 r4 r5 r6
    clear hE7 hRes7
    go_wp2
    refine bodyPost_ret (v := .tuple #[.agg #[.slice none 0 0, .slice none 0 0, .int .i64 (g : Int), .int .u64 (f : Int), .int .u64 (c : Int), .int .u64 (a : Int), .int .u64 (l : Int)], .int .i64 0]) (by simp [results, go_sem, *]) rfl ⟨rfl, ?_⟩
    exact ((((((hV7.setCell (by simp) _).setCell (by simp) _).setCell (by simp) _).setCell (by simp) _).setCell (by simp) _).setCell (by simp) _).setCell (by simp) _
end Go.Proofs.YthepokgkfaocmaaGreatDoor

/-
  The walk of edit.Views, for texts of changes that speak of no files.
-/
namespace Go.Proofs.YthepokgkfaocmaaGreatDoor
open Go.RowKit

/-- The five numbers of a View, or of a change, that speak of no files. -/
structure Bv where
  g : Nat
  f : Nat
  c : Nat
  a : Nat
  l : Nat
def Bv.zero : Bv := ⟨0, 0, 0, 0, 0⟩
def Bv.app (v e : Bv) : Bv := ⟨orElse e.g v.g, orElse e.f v.f, orElse e.c v.c, orElse e.a v.a, orElse e.l v.l⟩
def Bv.may (e : Bv) : Bool := decide (e.g ≤ 1073741824) && !bigs [e.f, e.c, e.a, e.l]
def Bv.ok (v : Bv) : Bool := decide (1 ≤ v.g) && v.may
def Bv.bytes (e : Bv) : List UInt8 := Ed.bytes ⟨[], [], e.g, e.f, e.c, e.a, e.l⟩
def Bv.vw (v : Bv) : Value := vwV v.g v.f v.c v.a v.l
def Bv.ed (v : Bv) : Value := edV v.g v.f v.c v.a v.l
def Bv.cells (v : Bv) : List Value := [.int .i64 (v.g : Int), .slice none 0 0, .int .u64 (v.f : Int), .int .u64 (v.c : Int), .int .u64 (v.a : Int), .int .u64 (v.l : Int)]
def Bv.run (es : List Bv) : Bv := es.foldl Bv.app Bv.zero
theorem Bv.run_snoc (es : List Bv) (e : Bv) : Bv.run (es ++ [e]) = (Bv.run es).app e := by simp [Bv.run]
theorem Bv.may_iff {e : Bv} : e.may = true ↔ e.g ≤ 1073741824 ∧ bigs [e.f, e.c, e.a, e.l] = false := by simp [Bv.may]
theorem Bv.ok_iff {e : Bv} : e.ok = true ↔ 1 ≤ e.g ∧ e.g ≤ 1073741824 ∧ bigs [e.f, e.c, e.a, e.l] = false := by simp [Bv.ok, Bv.may]
theorem bv_apply (v e : Bv) (w : World) (h : (v.app e).ok = true) : Calls Tryz.prog 44 #[v.vw, e.ed] w fun x w' => x = .returned (.tuple #[(v.app e).vw, .bool true]) ∧ Below w.heap.size w w' := by
  obtain ⟨h1, h2, h3⟩ := Bv.ok_iff.1 h
  exact apply_bare v.g v.f v.c v.a v.l e.g e.f e.c e.a e.l w h1 h2 h3
theorem bv_read (A : Option Addr) (N c0 : Nat) (e : Bv) (w : World) (h : e.may = true) (hN : N ≤ 100000000) (hNc : N ≤ c0) (hr : Row w.heap.size w A N 1 (bts e.bytes)) :
    Calls Tryz.prog 107 #[.slice A N c0] w fun x w' => x = .returned (.tuple #[e.ed, .int .i64 0]) ∧ Below w.heap.size w w' := by
  obtain ⟨h1, h2⟩ := Bv.may_iff.1 h
  exact eread_bare A N c0 e.g e.f e.c e.a e.l w h1 h2 hN hNc hr
theorem Bods.chg {base : Nat} {w w' : World} {kv bv : Value} {ks : List Nat} {bs : List (List UInt8)} {g : Nat} (h : Bods base w kv bv ks bs) (c : Chg [g] w w') (hg : g < base) : Bods base w' kv bv ks bs := by
  have hgr : w.grownBy w' (some g) := ⟨c.os, c.tape, c.output, c.size, fun k hk hne => c.block k hk (by simp; intro e; exact hne (by rw [e]))⟩
  obtain ⟨vs, hv, hx⟩ := h.row
  refine ⟨h.kinds.kept hgr (.inr (fun e => ?_)), ⟨vs, hv.kept hgr (.inr (fun e => ?_)), fun i hi => ?_⟩, h.sep⟩
  · have := (h.kinds.lt _ e).1
    omega
  · have := (hv.lt _ e).1
    omega
  · obtain ⟨A, k, c1, e, h1, h2, h3, h4⟩ := hx i hi
    exact ⟨A, k, c1, e, h1, h2, (h3.grow hgr (fun a ha e => by have := (h4 a ha).2.2.2; injection e with e; omega)).up c.size, fun a ha => ⟨Nat.lt_of_lt_of_le (h4 a ha).1 c.size, (h4 a ha).2⟩⟩
theorem bods_form {base : Nat} {w : World} {kv bv : Value} {ks : List Nat} {bs : List (List UInt8)} (h : Bods base w kv bv ks bs) (hl : ks.length = bs.length) (h0 : 0 < bs.length) :
    ∃ gk gb kc bc, kv = .slice (some ⟨gk, 0, none⟩) bs.length kc ∧ bv = .slice (some ⟨gb, 0, none⟩) bs.length bc := by
  obtain ⟨vs, hv, _⟩ := h.row
  rcases h.kinds.2 with ⟨_, h1⟩ | ⟨g, cap, cur, hv1, _⟩
  · omega
  · rcases hv.2 with ⟨_, h1⟩ | ⟨g2, cap2, cur2, hv2, _⟩
    · omega
    · exact ⟨g, g2, cap, cap2, by rw [hv1, hl], hv2⟩
theorem bods_at {base : Nat} {w : World} {gk gb n kc bc : Nat} {ks : List Nat} {bs : List (List UInt8)} (h : Bods base w (.slice (some ⟨gk, 0, none⟩) n kc) (.slice (some ⟨gb, 0, none⟩) n bc) ks bs) (hl : ks.length = bs.length) {k : Nat} (hk : k < bs.length) :
    ∃ x A M c, ks[k]? = some x ∧ w.cell? ⟨gk, k, none⟩ = some (.int .i64 (x : Int)) ∧ w.cell? ⟨gb, k, none⟩ = some (.slice A M c) ∧ M ≤ c ∧ Row w.heap.size w A M 1 (bts bs[k]) := by
  obtain ⟨vs, hv, hx⟩ := h.row
  obtain ⟨A, M, c, e, h1, h2, h3, _⟩ := hx k hk
  have hki := h.kinds
  have hxk : ks[k]? = some ks[k] := List.getElem?_eq_getElem (by omega)
  have c1 := hki.cells (g := gk) rfl k (.int .i64 ((ks[k] : Nat) : Int)) (by simp [i64v, hxk])
  have c2 := hv.cells (g := gb) rfl k _ e
  rw [base_add] at c1 c2
  exact ⟨ks[k], A, M, c, hxk, c1, c2, h1, h3⟩

theorem lt_of_cell {w : World} {b o : Nat} {v : Value} (h : w.cell? ⟨b, o, none⟩ = some v) : b < w.heap.size := by
  by_cases hlt : b < w.heap.size
  · exact hlt
  · simp [World.cell?, hlt] at h
theorem foldl_take (es : List Bv) (k : Nat) (h : k < es.length) : Bv.run (es.take (k + 1)) = (Bv.run (es.take k)).app es[k] := by
  rw [← List.take_append_getElem h, Bv.run_snoc]

set_option maxRecDepth 100000 in
set_option maxHeartbeats 2000000 in
theorem views_bare (A : Option Addr) (N c0 : Nat) (t : List UInt8) (es : List Bv) (stop er : Nat) (w : World) (hN : N ≤ 100000000) (hNc : N ≤ c0) (hc : c0 ≤ maxLen) (hr : Row w.heap.size w A N 1 (bts t))
    (hs : Fr.split t = (List.replicate es.length 6, es.map Bv.bytes, stop, er)) (her : er = 0 ∨ er = 4) (hes : 0 < es.length) (hel : es.length ≤ 1000000) (hmay : ∀ e ∈ es, e.may = true) (hok : ∀ k, k < es.length → (Bv.run (es.take (k + 1))).ok = true) :
    Calls Tryz.prog 83 #[.slice A N c0] w fun e w' => e = .returned (.tuple #[(Bv.run es).vw, .int .i64 (es.length : Int), .int .i64 (stop : Int), .int .i64 0]) ∧ Below w.heap.size w w' := by
  have hsp := fun W (hW : Row W.heap.size W A N 1 (bts t)) => split_any A N c0 t W (by omega) hNc hc hW
  rw [hs] at hsp
  have HSP := Lib.hid hsp
  have HMAY := Lib.hid hmay
  have HOK := Lib.hid hok
  have HR := Lib.hid hr
  clear hsp hmay hok hr hs
  go_enter Tryz.func83, Tryz.ntmps83
  go_wp2_with fail
  refine (HSP.out _ ((HR.out.alloc (Nat.le_refl _) _).up (by simp))).mono ?_
  rintro e w1 ⟨kv, bv, rfl, hbods, hb1⟩
  have hV0 := BoxO.new w #[.int .i64 0, .slice none 0 0, .int .u64 0, .int .u64 0, .int .u64 0, .int .u64 0] 31
  have hV := hV0.below hb1
  have hb := later_ ((Below.refl w.heap.size w).alloc (Nat.le_refl _) _) hb1
  simp only [World.size_alloc] at hbods
  have hll : (List.replicate es.length 6).length = (es.map Bv.bytes).length := by simp
  obtain ⟨gk, gb, kc, bc, rfl, rfl⟩ := bods_form hbods hll (by simpa using hes)
  have hmap : (es.map Bv.bytes).length = es.length := by simp
  rw [hmap] at hbods ⊢
  obtain ⟨n, hn⟩ : ∃ n, es.length = n := ⟨_, rfl⟩
  rw [hn] at hes hel hbods ⊢
  have HNL := Lib.hid hn
  clear hb1 hV0 hmap hll hn
  have hnz : ((n : Int) == 0) = false := by simp; omega
  rcases her with rfl | rfl
  all_goals
    go_wp2
    go_loopw [4, 35] (fun st i wr => ∃ k, k ≤ n ∧ st = .int .i64 (stop : Int) ∧ i = .int .i64 (k : Int) ∧ BoxO wr 31 w.heap.size (Bv.run (es.take k)).cells ∧ Chg [w.heap.size] w1 wr) (fun _ i _ => n - (intOf i).toNat)
    case atStart => exact ⟨0, Nat.zero_le _, rfl, rfl, hV, Chg.refl _ _⟩
    case round =>
      obtain ⟨k, hk, rfl, rfl, hBx, hchg⟩ := hrel
      have hbodr := hbods.chg hchg (by omega)
      by_cases hlt : k < n
      · have hn : es.length = n := HNL
        obtain ⟨x, A1, M1, c1, hxk, d1, d2, hM1, hrow⟩ := bods_at hbodr (by simp [hn]) (k := k) (by simp [hn]; exact hlt)
        have hx6 : x = 6 := by
          rw [List.getElem?_replicate, if_pos (by omega)] at hxk
          injection hxk with hxk
          exact hxk.symm
        subst hx6
        have hkl : k < es.length := by omega
        have hft := foldl_take es k hkl
        have hok1 := HOK.out k hkl
        rw [hft] at hok1
        have hmay1 := HMAY.out es[k] (List.getElem_mem hkl)
        have hrow1 : Row wr.heap.size wr A1 M1 1 (bts (es[k]).bytes) := by simpa using hrow
        generalize es[k] = ek at *
        generalize Bv.run (es.take k) = vk at *
        have HFT := Lib.hid hft
        have hM8 : M1 ≤ 100000000 := by
          have h1 := Bv.may_iff.1 hmay1
          have h2 := Ed.bytes_len ⟨[], [], ek.g, ek.f, ek.c, ek.a, ek.l⟩ (by
            have h3 := h1.2
            simp [bigs] at h3
            simp [Ed.may, four4]
            omega)
          have h4 := hrow1.btlen
          change (Bv.bytes ek).length ≤ 2000 at h2
          omega
        have hrd := bv_read A1 M1 c1 ek wr hmay1 hM8 hM1 hrow1
        have hap := fun W => bv_apply vk ek W hok1
        have HAP := Lib.hid hap
        clear hft hxk hkl hrow hap hok1 hmay1 hM8 hrow1
        go_wp2_with fail
        refine hrd.mono ?_
        rintro e w2 ⟨rfl, hb2⟩
        clear hrd
        have hB2 := hBx.below hb2
        have hk2 : w2.cell? ⟨gk, k, none⟩ = some (.int .i64 6) := (World.cell?_of_block (hb2.block gk (lt_of_cell d1))).trans d1
        have hlt2 := hB2.lt
        have hgk2 := lt_of_cell hk2
        have hc2 : Chg [w.heap.size] w1 w2 := hchg.trans (Chg.of_below hb2 []) (fun g hg => by cases hg)
        clear d1 d2 hb2 hBx hchg hbodr hM1
        have o0 := hB2.cell 0
        have o1 := hB2.cell 1
        have o2 := hB2.cell 2
        have o3 := hB2.cell 3
        have o4 := hB2.cell 4
        have o5 := hB2.cell 5
        simp only [Bv.cells, List.getElem?_cons_zero, List.getElem?_cons_succ] at o0 o1 o2 o3 o4 o5
        unfold Bv.ed edV
        have HAP2 := fun W => HAP.out W
        unfold Bv.ed edV Bv.vw vwV at HAP2
        have HA2 := Lib.hid HAP2
        clear HAP2 HAP
        go_wp2_with fail
        refine (HA2.out _).mono ?_
        rintro e w3 ⟨rfl, hb3⟩
        have hB3 := (hB2.alloc _).below hb3
        have hc3 : Chg [w.heap.size] w1 w3 := (hc2.alloc _).trans (Chg.of_below hb3 []) (fun g hg => by cases hg)
        clear o0 o1 o2 o3 o4 o5 hB2 hc2 hb3 hk2 HA2
        have o0 := hB3.cell 0
        have z0 := hB3.free 0
        have o1 := hB3.cell 1
        have z1 := hB3.free 1
        have o2 := hB3.cell 2
        have z2 := hB3.free 2
        have o3 := hB3.cell 3
        have z3 := hB3.free 3
        have o4 := hB3.cell 4
        have z4 := hB3.free 4
        have o5 := hB3.cell 5
        have z5 := hB3.free 5
        simp only [Bv.cells, List.getElem?_cons_zero, List.getElem?_cons_succ] at o0 o1 o2 o3 o4 o5
        have hlt3 := hB3.lt
        generalize vk.app ek = v2 at *
        go_wp2
        go_roundw
        case rel =>
          refine ⟨k + 1, by omega, rfl, by go_num, ?_, ?_⟩
          · have hft : Bv.run (es.take (k + 1)) = v2 := HFT
            rw [hft]
            exact ((((((hB3.store 0 _).store 1 _).store 2 _).store 3 _).store 4 _).store 5 _).alloc _
          · exact ((((((hc3.setCell _ (.inl (by simp))).setCell _ (.inl (by simp))).setCell _ (.inl (by simp))).setCell _ (.inl (by simp))).setCell _ (.inl (by simp))).setCell _ (.inl (by simp))).alloc _
        case measure => simp [intOf]; omega
      · obtain rfl : k = n := by omega
        have hall : Bv.run (es.take k) = Bv.run es := by
          have hn : es.length = k := HNL
          rw [List.take_of_length_le (by omega)]
        rw [hall] at hBx
        have hbr : Below w.heap.size w wr := hb.trans (hchg.below hb.size (by simp))
        generalize hv : Bv.run es = v at *
        have HV := Lib.hid hv
        clear hv
        have o0 := hBx.cell 0
        have z0 := hBx.free 0
        have o1 := hBx.cell 1
        have z1 := hBx.free 1
        have o2 := hBx.cell 2
        have z2 := hBx.free 2
        have o3 := hBx.cell 3
        have z3 := hBx.free 3
        have o4 := hBx.cell 4
        have z4 := hBx.free 4
        have o5 := hBx.cell 5
        have z5 := hBx.free 5
        simp only [Bv.cells, List.getElem?_cons_zero, List.getElem?_cons_succ] at o0 o1 o2 o3 o4 o5
        clear hall hBx hchg hbodr
        go_wp2
        unfold Bv.vw vwV
        refine bodyPost_ret (v := .tuple #[.agg #[.int .i64 (v.g : Int), .slice none 0 0, .int .u64 (v.f : Int), .int .u64 (v.c : Int), .int .u64 (v.a : Int), .int .u64 (v.l : Int)], .int .i64 (k : Int), .int .i64 (stop : Int), .int .i64 0]) (by simp [results, go_sem, *]) rfl ⟨by rw [show Bv.run es = v from HV, show es.length = k from HNL], ?_⟩
        exact (((((hbr.setCell (by simp) _).setCell (by simp) _).setCell (by simp) _).setCell (by simp) _).setCell (by simp) _).setCell (by simp) _
end Go.Proofs.YthepokgkfaocmaaGreatDoor

/-
  A manifest of bare Views over a disk, as plain data: rewrite, Save, Open.
-/
namespace Go.Proofs.YthepokgkfaocmaaGreatDoor
open Go

namespace Sd
variable {d : Sd}
theorem create_load (d : Sd) (s : List UInt8) : (d.create s).1.load ≤ d.load + 2 := by
  have h := call_load d [s]
  obtain ⟨e1, e2, e3, e4, _⟩ := call_same d [s]
  unfold create
  dsimp only
  split
  · omega
  · split
    · exact Nat.le_trans (Nat.le_of_eq h) (Nat.le_add_right _ _)
    · split
      · exact Nat.le_trans (Nat.le_of_eq h) (Nat.le_add_right _ _)
      · simp only [load, List.length_append, List.length_singleton]
        omega
theorem append_load (d : Sd) (s b : List UInt8) : (d.append s b).1.load = d.load := by
  have h := call_load d [s]
  obtain ⟨e1, e2, e3, e4, _⟩ := call_same d [s]
  unfold append
  dsimp only
  split
  · exact h
  · split
    · exact h
    · split
      · exact h
      · split
        · exact h
        · simp [load, e4]
theorem sync_load (d : Sd) (s : List UInt8) : (d.sync s).1.load = d.load := by
  have h := call_load d [s]
  obtain ⟨e1, e2, e3, e4, _⟩ := call_same d [s]
  unfold sync
  dsimp only
  split
  · exact h
  · split
    · exact h
    · simp [load, e4]
theorem rename_load (d : Sd) (a b : List UInt8) : (d.rename a b).1.load ≤ d.load + 1 := by
  have h := call_load d [a, b]
  obtain ⟨e1, e2, e3, e4, _⟩ := call_same d [a, b]
  unfold rename
  dsimp only
  split
  · omega
  · split
    · exact Nat.le_trans (Nat.le_of_eq h) (Nat.le_add_right _ _)
    · split
      · exact Nat.le_trans (Nat.le_of_eq h) (Nat.le_add_right _ _)
      · simp only [load, List.length_append, List.length_singleton, e3]
        omega
theorem remove_load (d : Sd) (s : List UInt8) : (d.remove s).1.load ≤ d.load + 1 := by
  have h := call_load d [s]
  obtain ⟨e1, e2, e3, e4, _⟩ := call_same d [s]
  unfold remove
  dsimp only
  split
  · omega
  · split
    · exact Nat.le_trans (Nat.le_of_eq h) (Nat.le_add_right _ _)
    · simp only [load, List.length_append, List.length_singleton, e3]
      omega
theorem syncDir_load (d : Sd) : (d.syncDir).1.load ≤ d.load := by
  have h := call_load d []
  obtain ⟨e1, e2, e3, e4, _⟩ := call_same d []
  unfold syncDir
  dsimp only
  split
  · omega
  · simp [load, e3]
/-- write: Create, Append, Sync. -/
def write (d : Sd) (s b : List UInt8) : Sd × Nat :=
  if (d.create s).2 ≠ 0 then d.create s
  else if ((d.create s).1.append s b).2 ≠ 0 then (d.create s).1.append s b
  else ((d.create s).1.append s b).1.sync s
theorem Wf.write {d : Sd} (h : d.Wf) (s b : List UInt8) : (d.write s b).1.Wf := by
  unfold Sd.write
  split
  · exact h.create s
  · split
    · exact (h.create s).append s b
    · exact ((h.create s).append s b).sync s
theorem write_load (d : Sd) (s b : List UInt8) : (d.write s b).1.load ≤ d.load + 2 := by
  have h1 := create_load d s
  have h2 := append_load (d.create s).1 s b
  have h3 := sync_load ((d.create s).1.append s b).1 s
  unfold write
  split
  · omega
  · split
    · omega
    · omega
end Sd

/-- A manifest. -/
structure Ms where
  name : List UInt8
  v : Bv
  count : Nat
  broken : Bool
namespace Mn
/-- The greatest number of names of a kind. -/
def greatest (l : List (List UInt8)) (kind : List UInt8) : Int := l.foldl (fun m s => max m ((number s kind).getD 0)) 0
theorem greatest_take {l : List (List UInt8)} {k : Nat} (h : k < l.length) (kind : List UInt8) : greatest (l.take (k + 1)) kind = max (greatest (l.take k) kind) ((number l[k] kind).getD 0) := by
  unfold greatest
  rw [List.take_succ_eq_append_getElem h, List.foldl_append]
  rfl
theorem number_fits {s kind : List UInt8} {v : Int} (h : number s kind = some v) (hs : s ≠ []) : 1 ≤ v ∧ v ≤ 1073741824 := by
  have h1 := number_some h
  by_cases hf : (fits v && isKind kind) = true
  · simp [fits] at hf; omega
  · rw [name, if_neg hf] at h1; exact absurd h1.symm hs
end Mn
namespace Mw
open Mn
def kCur : List UInt8 := [99, 117, 114, 114, 101, 110, 116]
def kTemp : List UInt8 := [99, 117, 114, 114, 101, 110, 116, 46, 116, 109, 112]
def recB (v : Bv) : List UInt8 := Fr.put 6 v.bytes
def headB (n : Int) : List UInt8 := Fr.put 8 (Pn.put n.toNat)
/-- Each other man file is removed. -/
def sweep (nm : List UInt8) : List (List UInt8) → Sd → Sd
  | [], d => d
  | o :: r, d => sweep nm r (if (number o kMan).isSome && !(o == nm) then (d.remove o).1 else d)
def fin (d : Sd) (M : Ms) (nm : List UInt8) : Sd × Ms × Nat :=
  if (d.syncDir).2 ≠ 0 then ((d.syncDir).1, { M with name := nm, count := 1, broken := true }, (d.syncDir).2)
  else (sweep nm (d.syncDir).1.list (d.syncDir).1, { M with name := nm, count := 1 }, 0)
def ren (d : Sd) (M : Ms) (nm : List UInt8) : Sd × Ms × Nat :=
  if (d.rename kTemp kCur).2 ≠ 0 then ((d.rename kTemp kCur).1, M, (d.rename kTemp kCur).2) else fin (d.rename kTemp kCur).1 M nm
def sd1 (d : Sd) (M : Ms) (nm : List UInt8) : Sd × Ms × Nat :=
  if (d.syncDir).2 ≠ 0 then ((d.syncDir).1, M, (d.syncDir).2) else ren (d.syncDir).1 M nm
def hd (d : Sd) (M : Ms) (nm : List UInt8) : Sd × Ms × Nat :=
  if (d.write kTemp (headB ((number nm kMan).getD 0))).2 ≠ 0 then ((d.write kTemp (headB ((number nm kMan).getD 0))).1, M, (d.write kTemp (headB ((number nm kMan).getD 0))).2)
  else sd1 (d.write kTemp (headB ((number nm kMan).getD 0))).1 M nm
def tmp (d : Sd) (M : Ms) (nm : List UInt8) : Sd × Ms × Nat :=
  if (d.read kTemp).2 = 0 then
    if (d.remove kTemp).2 ≠ 0 then ((d.remove kTemp).1, M, (d.remove kTemp).2) else hd (d.remove kTemp).1 M nm
  else hd d M nm
/-- The View is written into a file, and current leads to it. -/
def rewrite (d : Sd) (M : Ms) (nm : List UInt8) : Sd × Ms × Nat :=
  if (d.write nm (recB M.v)).2 ≠ 0 then ((d.write nm (recB M.v)).1, M, (d.write nm (recB M.v)).2)
  else tmp (d.write nm (recB M.v)).1 M nm
/-- A change is saved. -/
def save (d : Sd) (M : Ms) (e : Bv) : Sd × Ms × Nat :=
  if M.broken = true then (d, M, 14)
  else if (d.append M.name (recB e)).2 ≠ 0 then ((d.append M.name (recB e)).1, M, (d.append M.name (recB e)).2)
  else if ((d.append M.name (recB e)).1.sync M.name).2 ≠ 0 then (((d.append M.name (recB e)).1.sync M.name).1, { M with count := M.count + 1, v := M.v.app e, broken := true }, ((d.append M.name (recB e)).1.sync M.name).2)
  else (((d.append M.name (recB e)).1.sync M.name).1, { M with count := M.count + 1, v := M.v.app e }, 0)
/-- A manifest is written anew. -/
def rewriteM (d : Sd) (M : Ms) : Sd × Ms × Nat :=
  if M.broken = true then (d, M, 14)
  else if 1073741824 < greatest d.list kMan + 1 then (d, M, 65)
  else rewrite d M (name kMan (greatest d.list kMan + 1))
end Mw
end Go.Proofs.YthepokgkfaocmaaGreatDoor

/-
  A calm disk by its names' texts; a manifest's disk at rest: one man file, and current that leads to it.
-/
namespace Go.Proofs.YthepokgkfaocmaaGreatDoor
open Go

/-- What a name's file holds. -/
def cont (d : Sd) (s : List UInt8) : Option (List UInt8) := (d.names.get s).map fun i => (d.files.getD i ([], 0)).1
def upd (f : List UInt8 → Option (List UInt8)) (s : List UInt8) (v : Option (List UInt8)) : List UInt8 → Option (List UInt8) := fun t => if t = s then v else f t
/-- No death, no failure is set; no two names lead to one file. -/
structure Calm (d : Sd) : Prop where
  wf : d.Wf
  dead : d.dead = false
  stop : d.stop = 0
  fail : d.fail = 0
  inj : ∀ p ∈ d.names, ∀ q ∈ d.names, p.2 = q.2 → p.1 = q.1
/-- Names and lengths are bounded. -/
structure Small (d : Sd) (K : List (List UInt8)) (B : Nat) : Prop where
  names : ∀ s x, cont d s = some x → s ∈ K
  len : ∀ s x, cont d s = some x → x.length ≤ B

namespace Calm
variable {d : Sd} {s : List UInt8}
theorem new (q : Int) (hq : q ≤ 1099511627776) : Calm (Sd.new q) := ⟨Sd.new_wf q hq, rfl, rfl, rfl, fun p hp => by cases hp⟩
theorem cont_new (q : Int) : cont (Sd.new q) = fun _ => none := rfl
theorem call (h : Calm d) {l : List (List UInt8)} (hl : l.all Sd.named = true) : d.call l = ({ d with calls := RowKit.wrap64 (d.calls + 1) }, 0) := by
  unfold Sd.call
  rw [if_neg (by simp [hl])]
  simp only [h.dead, h.stop, h.fail]
  rfl
theorem get_of {x : List UInt8} (hc : cont d s = some x) : ∃ i, d.names.get s = some i ∧ (d.files.getD i ([], 0)).1 = x := by
  unfold cont at hc
  cases hg : d.names.get s with
  | none => rw [hg] at hc; cases hc
  | some i => rw [hg] at hc; injection hc with hc; exact ⟨i, rfl, hc⟩
theorem get_none (hc : cont d s = none) : d.names.get s = none := by
  unfold cont at hc
  cases hg : d.names.get s with
  | none => rfl
  | some i => rw [hg] at hc; cases hc
theorem recall (h : Calm d) (n : Int) : Calm { d with calls := n } := by
  obtain ⟨⟨a1, a2, a3, a4, a5, a6, a7, a8, b1, b2, b3, a9, a10⟩, c1, c2, c3, c4⟩ := h
  exact ⟨⟨a1, a2, a3, a4, a5, a6, a7, a8, b1, b2, b3, a9, a10⟩, c1, c2, c3, c4⟩
theorem read (h : Calm d) (hs : Sd.named s = true) {x : List UInt8} (hc : cont d s = some x) : d.read s = (x, 0) := by
  obtain ⟨i, hg, hx⟩ := get_of hc
  unfold Sd.read
  rw [if_neg (by simp [hs]), if_neg (by simp [h.dead]), hg]
  simp only
  rw [hx]
theorem read_none (h : Calm d) (hs : Sd.named s = true) (hc : cont d s = none) : (d.read s).2 = 11 := by
  unfold Sd.read
  rw [if_neg (by simp [hs]), if_neg (by simp [h.dead]), get_none hc]
theorem create (h : Calm d) (hs : Sd.named s = true) (hc : cont d s = none) (hn : d.names.length < 64) : (d.create s).2 = 0 ∧ Calm (d.create s).1 ∧ cont (d.create s).1 = upd (cont d) s (some []) ∧ (d.create s).1.quota = d.quota := by
  have hw := h.wf.create s
  have hg := get_none hc
  have e : d.create s = ({ d with calls := RowKit.wrap64 (d.calls + 1), names := d.names.put s d.files.length, turns := d.turns ++ [⟨1, d.files.length, s, []⟩], files := d.files ++ [([], 0)] }, 0) := by
    unfold Sd.create
    rw [h.call (by simpa using hs)]
    simp only [ne_eq, not_true_eq_false, if_false, hg, Option.isSome_none, Bool.false_eq_true]
    rw [if_neg (by omega)]
  rw [e] at hw ⊢
  refine ⟨rfl, ⟨hw, h.dead, h.stop, h.fail, fun p hp q hq he => ?_⟩, ?_, rfl⟩
  · rcases Nm.mem_put.1 hp with rfl | ⟨hp, _⟩ <;> rcases Nm.mem_put.1 hq with rfl | ⟨hq, _⟩
    · rfl
    · have := h.wf.names q hq
      simp only at he
      omega
    · have := h.wf.names p hp
      simp only at he
      omega
    · exact h.inj p hp q hq he
  · funext t
    unfold cont upd
    dsimp only
    by_cases ht : t = s
    · subst ht
      rw [if_pos rfl, Nm.get_put_same h.wf.apart]
      simp
    · rw [if_neg ht, Nm.get_put_other h.wf.apart ht]
      cases hgt : d.names.get t with
      | none => rfl
      | some i =>
        have hi := h.wf.names _ (Nm.get_mem hgt)
        simp only at hi
        simp [List.getD_eq_getElem?_getD, List.getElem?_append_left hi]
theorem cont_set (h : Calm d) {i : Nat} (hg : d.names.get s = some i) (f : List UInt8 × Nat) : cont { d with files := d.files.set i f } = upd (cont d) s (some f.1) := by
  funext t
  have hi : i < d.files.length := h.wf.names _ (Nm.get_mem hg)
  unfold cont upd
  dsimp only
  by_cases ht : t = s
  · subst ht
    rw [if_pos rfl, hg]
    simp [List.getD_eq_getElem?_getD, hi]
  · rw [if_neg ht]
    cases hgt : d.names.get t with
    | none => rfl
    | some j =>
      have hij : i ≠ j := fun e => ht ((h.inj _ (Nm.get_mem hgt) _ (Nm.get_mem hg) (by simp [e])))
      simp [List.getD_eq_getElem?_getD, List.getElem?_set, hij]
theorem append (h : Calm d) (hs : Sd.named s = true) {x : List UInt8} (hc : cont d s = some x) (b : List UInt8) (h1 : x.length + b.length ≤ 250000) (h2 : d.used + b.length ≤ d.quota) : (d.append s b).2 = 0 ∧ Calm (d.append s b).1 ∧ cont (d.append s b).1 = upd (cont d) s (some (x ++ b)) ∧ (d.append s b).1.quota = d.quota := by
  have hw := h.wf.append s b
  obtain ⟨i, hg, hx⟩ := get_of hc
  have e : d.append s b = ({ d with calls := RowKit.wrap64 (d.calls + 1), files := d.files.set i (x ++ b, (d.files.getD i ([], 0)).2) }, 0) := by
    unfold Sd.append
    rw [h.call (by simpa using hs)]
    simp only [ne_eq, not_true_eq_false, if_false, hg]
    unfold Sd.size
    rw [hx, if_neg (by omega), if_neg (by omega)]
  rw [e] at hw ⊢
  refine ⟨rfl, ⟨hw, h.dead, h.stop, h.fail, h.inj⟩, ?_, rfl⟩
  exact (h.recall (RowKit.wrap64 (d.calls + 1))).cont_set hg _
theorem sync (h : Calm d) (hs : Sd.named s = true) {x : List UInt8} (hc : cont d s = some x) : (d.sync s).2 = 0 ∧ Calm (d.sync s).1 ∧ cont (d.sync s).1 = cont d ∧ (d.sync s).1.quota = d.quota := by
  have hw := h.wf.sync s
  obtain ⟨i, hg, hx⟩ := get_of hc
  have e : d.sync s = ({ d with calls := RowKit.wrap64 (d.calls + 1), files := d.files.set i (x, d.size i) }, 0) := by
    unfold Sd.sync
    rw [h.call (by simpa using hs)]
    simp only [ne_eq, not_true_eq_false, if_false, hg]
    rw [hx]
  rw [e] at hw ⊢
  refine ⟨rfl, ⟨hw, h.dead, h.stop, h.fail, h.inj⟩, ?_, rfl⟩
  have h2 := (h.recall (RowKit.wrap64 (d.calls + 1))).cont_set hg (x, d.size i)
  refine h2.trans ?_
  funext t
  unfold upd
  split
  · subst_vars; exact hc.symm
  · rfl
theorem length_names (h : Calm d) {K : List (List UInt8)} {B : Nat} (hk : Small d K B) : d.names.length ≤ K.length ∧ d.used ≤ K.length * B := by
  have key : ∀ (m : Nm) (K : List (List UInt8)), Nm.Apart m → (∀ p ∈ m, p.1 ∈ K ∧ d.size p.2 ≤ B) → m.length ≤ K.length ∧ (m.map fun p => d.size p.2).sum ≤ K.length * B := by
    intro m
    induction m with
    | nil => intro K _ _; simp
    | cons p r ih =>
      intro K ha hm
      obtain ⟨h1, h2⟩ := List.pairwise_cons.1 ha
      obtain ⟨hp, hs⟩ := hm p (by simp)
      have hl := List.length_erase_of_mem hp
      have hpos : 0 < K.length := List.length_pos_of_mem hp
      obtain ⟨i1, i2⟩ := ih (K.erase p.1) h2 (fun q hq => ⟨by
        have := (hm q (by simp [hq])).1
        exact (List.mem_erase_of_ne (fun e => h1 q hq e.symm)).2 this, (hm q (by simp [hq])).2⟩)
      rw [hl] at i1 i2
      refine ⟨by simp; omega, ?_⟩
      simp only [List.map_cons, List.sum_cons]
      have e : K.length * B = (K.length - 1) * B + B := by
        conv => lhs; rw [show K.length = (K.length - 1) + 1 by omega, Nat.add_mul, Nat.one_mul]
      omega
  refine key d.names K h.wf.apart (fun p hp => ?_)
  have hg := Nm.mem_get h.wf.apart (s := p.1) (i := p.2) (by simpa using hp)
  have hc : cont d p.1 = some (d.files.getD p.2 ([], 0)).1 := by unfold cont; rw [hg]; rfl
  exact ⟨hk.names _ _ hc, hk.len _ _ hc⟩
theorem write (h : Calm d) (hs : Sd.named s = true) (hc : cont d s = none) {K : List (List UInt8)} {B : Nat} (hk : Small d K B) (hK : K.length < 64) (b : List UInt8) (h1 : b.length ≤ 250000) (h2 : (K.length + 1) * B + b.length ≤ d.quota) :
    (d.write s b).2 = 0 ∧ Calm (d.write s b).1 ∧ cont (d.write s b).1 = upd (cont d) s (some b) ∧ (d.write s b).1.quota = d.quota := by
  obtain ⟨l1, l2⟩ := h.length_names hk
  obtain ⟨c1, c2, c3, c4⟩ := h.create hs hc (by omega)
  have hk2 : Small (d.create s).1 (s :: K) B := ⟨fun t x ht => by
    rw [c3] at ht
    unfold upd at ht
    split at ht
    · subst_vars; simp
    · exact List.mem_cons_of_mem _ (hk.names t x ht), fun t x ht => by
    rw [c3] at ht
    unfold upd at ht
    split at ht
    · injection ht with ht; subst ht; simp
    · exact hk.len t x ht⟩
  obtain ⟨_, l4⟩ := c2.length_names hk2
  have hcs : cont (d.create s).1 s = some [] := by rw [c3, upd, if_pos rfl]
  simp only [List.length_cons] at l4
  obtain ⟨a1, a2, a3, a4⟩ := c2.append hs hcs b (by simp; exact h1) (by rw [c4]; omega)
  have hcb : cont ((d.create s).1.append s b).1 s = some b := by rw [a3, upd, if_pos rfl]; rfl
  obtain ⟨b1, b2, b3, b4⟩ := a2.sync hs hcb
  unfold Sd.write
  rw [if_neg (by simp [c1]), if_neg (by simp [a1])]
  refine ⟨b1, b2, ?_, b4.trans (a4.trans c4)⟩
  rw [b3, a3, c3]
  funext t
  unfold upd
  split <;> rfl
theorem remove (h : Calm d) (hs : Sd.named s = true) {x : List UInt8} (hc : cont d s = some x) : (d.remove s).2 = 0 ∧ Calm (d.remove s).1 ∧ cont (d.remove s).1 = upd (cont d) s none ∧ (d.remove s).1.quota = d.quota := by
  have hw := h.wf.remove s
  obtain ⟨i, hg, hx⟩ := get_of hc
  have e : d.remove s = ({ d with calls := RowKit.wrap64 (d.calls + 1), names := d.names.del s, turns := d.turns ++ [⟨3, 0, s, []⟩] }, 0) := by
    unfold Sd.remove
    rw [h.call (by simpa using hs)]
    simp only [ne_eq, not_true_eq_false, if_false, hg, Option.isNone_some, Bool.false_eq_true]
    rfl
  rw [e] at hw ⊢
  refine ⟨rfl, ⟨hw, h.dead, h.stop, h.fail, fun p hp q hq he => h.inj p (Nm.mem_del.1 hp).1 q (Nm.mem_del.1 hq).1 he⟩, ?_, rfl⟩
  funext t
  unfold cont upd
  dsimp only
  by_cases ht : t = s
  · subst ht
    rw [if_pos rfl, Nm.get_del_same]
    rfl
  · rw [if_neg ht, Nm.get_del_other h.wf.apart ht]
theorem rename (h : Calm d) {a b : List UInt8} (ha : Sd.named a = true) (hb : Sd.named b = true) (hne : a ≠ b) {x : List UInt8} (hc : cont d a = some x) : (d.rename a b).2 = 0 ∧ Calm (d.rename a b).1 ∧ cont (d.rename a b).1 = upd (upd (cont d) b (some x)) a none ∧ (d.rename a b).1.quota = d.quota := by
  have hw := h.wf.rename a b
  obtain ⟨i, hg, hx⟩ := get_of hc
  have hgo : Tn.go ⟨2, 0, a, b⟩ d.names = (d.names.put b i).del a := by unfold Tn.go; simp [hg]
  have e : d.rename a b = ({ d with calls := RowKit.wrap64 (d.calls + 1), names := (d.names.put b i).del a, turns := d.turns ++ [⟨2, 0, a, b⟩] }, 0) := by
    unfold Sd.rename
    rw [h.call (by simp [ha, hb])]
    simp only [ne_eq, not_true_eq_false, if_false, hg, Option.isNone_some, Bool.false_eq_true, hne]
    rw [hgo]
  rw [e] at hw ⊢
  have hap := Nm.apart_put h.wf.apart b i
  refine ⟨rfl, ⟨hw, h.dead, h.stop, h.fail, fun p hp q hq he => ?_⟩, ?_, rfl⟩
  · obtain ⟨hp, hpa⟩ := Nm.mem_del.1 hp
    obtain ⟨hq, hqa⟩ := Nm.mem_del.1 hq
    have ham := Nm.get_mem hg
    rcases Nm.mem_put.1 hp with rfl | ⟨hp, _⟩ <;> rcases Nm.mem_put.1 hq with rfl | ⟨hq, _⟩
    · rfl
    · exact absurd (h.inj _ ham q hq (by simpa using he)).symm hqa
    · exact absurd (h.inj p hp _ ham (by simpa using he)) hpa
    · exact h.inj p hp q hq he
  · funext t
    unfold cont upd
    dsimp only
    by_cases ht : t = a
    · subst ht
      rw [if_pos rfl, Nm.get_del_same]
      rfl
    · rw [if_neg ht, Nm.get_del_other hap ht]
      by_cases ht2 : t = b
      · subst ht2
        rw [if_pos rfl, Nm.get_put_same h.wf.apart]
        simp only [Option.map_some]
        rw [hx]
      · rw [if_neg ht2, Nm.get_put_other h.wf.apart ht2]
theorem syncDir (h : Calm d) : (d.syncDir).2 = 0 ∧ Calm (d.syncDir).1 ∧ cont (d.syncDir).1 = cont d ∧ (d.syncDir).1.quota = d.quota := by
  have hw := h.wf.syncDir
  have e : d.syncDir = ({ d with calls := RowKit.wrap64 (d.calls + 1), lasted := d.names, turns := [] }, 0) := by
    unfold Sd.syncDir
    rw [h.call rfl]
    rfl
  rw [e] at hw ⊢
  exact ⟨rfl, ⟨hw, h.dead, h.stop, h.fail, h.inj⟩, rfl, rfl⟩
theorem mem_list (h : Calm d) : s ∈ d.list ↔ ∃ x, cont d s = some x := by
  unfold Sd.list
  rw [if_neg (by simp [h.dead]), List.mem_mergeSort]
  constructor
  · intro hm
    obtain ⟨p, hp, rfl⟩ := List.mem_map.1 hm
    have hg := Nm.mem_get h.wf.apart (s := p.1) (i := p.2) (by simpa using hp)
    exact ⟨_, by unfold cont; rw [hg]; rfl⟩
  · rintro ⟨x, hx⟩
    obtain ⟨i, hg, _⟩ := get_of hx
    exact List.mem_map.2 ⟨(s, i), Nm.get_mem hg, rfl⟩
end Calm
end Go.Proofs.YthepokgkfaocmaaGreatDoor
