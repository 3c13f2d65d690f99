/- What CheckOuter leans on besides, part 3: Lk. -/
import Derived.Test.YtkdjnegfnhldpaaGreatDoorH37
import Derived.Test.YtkdjnegfnhldpaaGreatDoorZCheckOuter01
import Derived.Test.YtkdjnegfnhldpaaGreatDoorZCheckOuter02
set_option linter.unusedVariables false
set_option maxRecDepth 100000
set_option linter.unusedSimpArgs false
namespace Go.Proofs.YtkdjnegfnhldpaaGreatDoor
open Go.Lib (hid)
section
open Go.RowKit
theorem outer_facts {w : World} {t : PA} {x : TE} (hl : LA.lies w t) (hs : SmallNs t) (hz : t.size ≤ 1000) (hr : checkR t = .ok x) :
    (∀ z ∈ gathT x.1, z = 0) ∧ (∀ z ∈ rhosOf x.2, z = 0) ∧ mayT x.1 = true ∧ effsOK x.1 = true ∧ mayB x.2 = true ∧ x.2.length ≤ 102000 := by
  have hm : mayA t = true := by
    unfold checkR at hr
    cases h : mayA t with
    | true => rfl
    | false => rw [h, if_neg Bool.false_ne_true] at hr; cases hr
  have hc : checkA (PA.er t) = .ok x := by
    unfold checkR at hr
    rwa [hm, if_pos rfl] at hr
  have hg := chk_good (PA.er t) [] [0] x (good_of_may t hl hs hm) (fun b hb => by cases hb) (checkA_ok.1 hc).2
  have h1 := outer_plain hc
  have h2 : (PA.er t).size = t.size := Rose.size_map _ _
  have h3 := hg.len
  exact ⟨h1.1, h1.2, hg.may, hg.effs, hg.can, by omega⟩
set_option maxHeartbeats 8000000 in
theorem outer_err {w : World} (hv : Vr w) (t : PA) (hl : LA.lies w t) {z no : Int} (hr : checkR t = .error (z, no)) :
    Calls Tryz.prog 4 #[aggT t.head] w fun e w' => e = .returned (.bool true) ∧ Below w.heap.size w w' := by
  have HB := hid ((Below.refl w.heap.size w).alloc (Nat.le_refl _) (boxA t.head))
  have HBX := hid (boxA_new w t.head)
  have HV := hid hv
  have HR := hid hr
  have HGR := hid (great_any t (LA.lies_below HB.out t hl))
  have hno := check_no hr
  have ez : (no == 0) = false := by simp [hno]
  have ez2 : (no != 0) = true := by simp [hno]
  clear hl hv hr
  go_enter Tryz.func4, Tryz.ntmps4
  go_upto_region 1 with fail
  go_upto_region 3 with (first
    | (refine wpList_load_row rfl 31 _ rfl w.heap.size rfl 31 _ (0, 0) _ HBX.out.blk Tryz.underlying31 rfl (by kernel_rfl) ?_)
    | (go_at_call 10; refine HGR.out.mono ?_; rintro e w8 ⟨⟨r, rfl, hgr⟩, hb⟩; have HB := hid (HB.out.trans (hb.mono HB.out.size)); have HBX := hid (HBX.out.below hb); have HBG := hid hb; clear hb; have HC0 := hid hgr; clear hgr; cases r; have HCE := hid ((HC0.out (by first | trivial | rfl)).below HBG.out))
    | (go_at_call 11; refine (awake15_any (HV.out.below HB.out)).mono ?_; rintro e w9 ⟨rfl, hb⟩; have HB := hid (HB.out.trans (hb.mono HB.out.size)); clear hb))
  all_goals (try (go_ret; exact ⟨rfl, HB.out⟩))
  have HK3 := hid (check_Check_any (t := t) HCE.out.lies HCE.out.small (Nat.le_trans HCE.out.size (by omega)) (HV.out.below HB.out))
  go_upto_region 4 with (first
    | (refine wpList_load_row rfl 31 _ rfl w.heap.size rfl 31 _ (0, 0) _ HBX.out.blk Tryz.underlying31 rfl (by kernel_rfl) ?_)
    | (go_at_call 12; refine (HK3.out).mono ?_; rw [HR.out]; rintro e w3 ⟨he, hb⟩; obtain rfl := he; have HB := hid (HB.out.trans (hb.mono HB.out.size)); have HBX := hid (HBX.out.below hb); have HBC := hid hb; clear hb)
    | (refine wpList_store_row rfl 28 _ _ rfl _ #[.int .u8 0, .int .i64 0, .slice none 0 0, .slice none 0 0] rfl rfl 28 _ (heap_new_at _ _ _ _ (by simp)) (by kernel_rfl) rfl (by simp [Value.oneCell']) ?_; rw [setRow_alloc_at _ _ _ _ _ (by simp)]))
  have hb4 : Below w3.heap.size w3 (w3.alloc (.cells #[.int .u8 0, .int .i64 0, .slice none 0 0, .slice none 0 0] 28)) := (Below.refl _ _).alloc (Nat.le_refl _) _
  have HB := hid (HB.out.trans (hb4.mono HB.out.size))
  clear hb4
  go_wp2_with (first
    | (go_at_call 11; refine (awake15_any (HV.out.below HB.out)).mono ?_; rintro e w9 ⟨rfl, hb⟩; have HB := hid (HB.out.trans (hb.mono HB.out.size)); clear hb))
  go_ret
  exact ⟨rfl, HB.out⟩
set_option maxHeartbeats 8000000 in
theorem outer_ok {w : World} (hv : Vr w) (t : PA) (hl : LA.lies w t) {x : TE} (hr : checkR t = .ok x) :
    Calls Tryz.prog 4 #[aggT t.head] w fun e w' => e = .returned (.bool true) ∧ Below w.heap.size w w' := by
  have HB := hid ((Below.refl w.heap.size w).alloc (Nat.le_refl _) (boxA t.head))
  have HBX := hid (boxA_new w t.head)
  have HV := hid hv
  have HR := hid hr
  have HGR := hid (great_any t (LA.lies_below HB.out t hl))
  clear hl hv hr
  go_enter Tryz.func4, Tryz.ntmps4
  go_upto_region 1 with fail
  go_upto_region 3 with (first
    | (refine wpList_load_row rfl 31 _ rfl w.heap.size rfl 31 _ (0, 0) _ HBX.out.blk Tryz.underlying31 rfl (by kernel_rfl) ?_)
    | (go_at_call 10; refine HGR.out.mono ?_; rintro e w8 ⟨⟨r, rfl, hgr⟩, hb⟩; have HB := hid (HB.out.trans (hb.mono HB.out.size)); have HBX := hid (HBX.out.below hb); have HBG := hid hb; clear hb; have HC0 := hid hgr; clear hgr; cases r; have HCE := hid ((HC0.out (by first | trivial | rfl)).below HBG.out))
    | (go_at_call 11; refine (awake15_any (HV.out.below HB.out)).mono ?_; rintro e w9 ⟨rfl, hb⟩; have HB := hid (HB.out.trans (hb.mono HB.out.size)); clear hb))
  all_goals (try (go_ret; exact ⟨rfl, HB.out⟩))
  have HK3 := hid (check_Check_any (t := t) HCE.out.lies HCE.out.small (Nat.le_trans HCE.out.size (by omega)) (HV.out.below HB.out))
  obtain ⟨f1, f2, f3, f4, f5, f6⟩ := outer_facts HCE.out.lies HCE.out.small (Nat.le_trans HCE.out.size (by omega)) HR.out
  have HF1 := hid f1
  have HF2 := hid f2
  have HF3 := hid f3
  have HF4 := hid f4
  have HF5 := hid f5
  have HF6 := hid f6
  clear f1 f2 f3 f4 f5 f6
  go_upto_region 4 with (first
    | (refine wpList_load_row rfl 31 _ rfl w.heap.size rfl 31 _ (0, 0) _ HBX.out.blk Tryz.underlying31 rfl (by kernel_rfl) ?_)
    | (go_at_call 12; refine (HK3.out).mono ?_; rw [HR.out]; rintro e w3 ⟨⟨y3, q3, m3, c3, rfl, hly, hey, hrow⟩, hb⟩; have HLY3 := hid hly; have HEY3 := hid hey; have HRW3 := hid hrow; clear hly hey hrow; have HB := hid (HB.out.trans (hb.mono HB.out.size)); have HBX := hid (HBX.out.below hb); have HBC := hid hb; clear hb)
    | (refine wpList_store_row rfl 28 _ _ rfl _ #[.int .u8 y3.head.kind, .int .i64 y3.head.rho, .slice y3.head.ep y3.head.en y3.head.ec, .slice y3.head.kp y3.head.kn y3.head.kc] rfl rfl 28 _ (heap_new_at _ _ _ _ (by simp)) (by kernel_rfl) rfl (by simp [Value.oneCell']) ?_; rw [setRow_alloc_at _ _ _ _ _ (by simp)]))
  have hb4 : Below w3.heap.size w3 (w3.alloc (.cells #[.int .u8 y3.head.kind, .int .i64 y3.head.rho, .slice y3.head.ep y3.head.en y3.head.ec, .slice y3.head.kp y3.head.kn y3.head.kc] 28)) := (Below.refl _ _).alloc (Nat.le_refl _) _
  have HB := hid (HB.out.trans (hb4.mono HB.out.size))
  have HY3 := hid (heap_new_at w3 #[.int .u8 y3.head.kind, .int .i64 y3.head.rho, .slice y3.head.ep y3.head.en y3.head.ec, .slice y3.head.kp y3.head.kn y3.head.kc] 28 _ rfl)
  have HLY3 := hid (LR.lies_below hb4 _ HLY3.out)
  have HRW3 := hid (HRW3.out.below hb4)
  obtain ⟨g3, hg3⟩ : ∃ g3, w3.heap.size = g3 := ⟨_, rfl⟩
  rw [hg3] at HY3 ⊢
  generalize w3.alloc (.cells #[.int .u8 y3.head.kind, .int .i64 y3.head.rho, .slice y3.head.ep y3.head.en y3.head.ec, .slice y3.head.kp y3.head.kn y3.head.kc] 28) = W4 at *
  clear hg3 hb4 HBC HBX HCE HK3
  obtain ⟨x1, x2⟩ := x
  simp only at HEY3 HRW3 HF1 HF2 HF3 HF4 HF5 HF6
  have HG0 : Hid (∀ z ∈ gathT y3.er, z = 0) := by have h := HF1.out; rw [← HEY3.out] at h; exact h
  have HE0 : Hid (effsOK y3.er = true) := by have h := HF4.out; rw [← HEY3.out] at h; exact h
  have HM0 : Hid (mayT y3.er = true) := by have h := HF3.out; rw [← HEY3.out] at h; exact h
  have hlen2 := HRW3.out.len
  have hm3 : m3 ≤ 1000000 := by have := HF6.out; omega
  clear hlen2 HEY3
  have hb6 : Below W4.heap.size W4 (W4.alloc (.cells #[] 3)) := (Below.refl _ _).alloc (Nat.le_refl _) _
  have HB4 := hid hb6
  have HY36 := hid ((hb6.block _ (lt_heap HY3.out)).trans HY3.out)
  have HO4 := hid (OwnE.lit encN W4 W4.heap.size 3 1 (Nat.le_refl _))
  clear hb6
  go_upto_region 7 with (first
    | (refine wpList_load_midG (by rfl) 28 _ rfl g3 0 rfl [.int .u8 y3.head.kind, .int .i64 y3.head.rho, .slice y3.head.ep y3.head.en y3.head.ec, .slice y3.head.kp y3.head.kn y3.head.kc] _ (r4 HY36.out) Tryz.underlying28 rfl (by kernel_rfl) ?_)
    | (go_at_call 15; refine (ref12_Rhos_any y3 (LR.lies_below HB4.out _ HLY3.out) HG0.out HE0.out).mono ?_; rintro e w5 ⟨v5, q5, n5, c5, l5, rfl, rfl, hr5, hz5, hb⟩; have HR5 := hid hr5; have hn5 := hr5.len; have hz5' := zs_len hz5; have HZ5 := hid hz5; have HO5 := hid (HO4.out.below hb); have HB5 := hid (HB4.out.trans (hb.mono HB4.out.size)); clear hb hr5 hz5)
    | (go_at_call 16; refine (ref_Rhos_any (HRW3.out.below HB6.out) hm3).mono ?_; rintro e w7 ⟨⟨q7, n7, c7, rfl, hr7⟩, hb⟩; have HR7 := hid hr7; have hn7 := hr7.len; have hn7' : n7 ≤ 1000000 := by { have h1 := rhosOf_length x2; have h2 := HF6.out; omega }; have HO7 := hid (HO6.out.below hb); have HB7 := hid (HB6.out.trans (hb.mono HB6.out.size)); clear hb hr7)
    | (at_builtin; refine wpList_appendF rfl _ _ 24 rfl W4.heap.size 3 _ 1 8 Tryz.underlying24 infoN rfl (by decide) encN encN_len encN_one (rhosOf x2) ([] ++ l5) (0 + n5) _ HO7.out _ n7 _ rfl rfl hn7 HR7.out.nil HR7.out.row (by omega) (by omega) HB7.out.size ?_; intro v8 w8 hown8 hg8 hf8; have HO8 := hid hown8; have HB8 := hid (Below.own HB7.out hg8 HB7.out.size HO7.out); clear hown8 hg8 hf8)
    | (at_builtin; refine wpList_appendF rfl _ _ 24 rfl W4.heap.size 3 _ 1 8 Tryz.underlying24 infoN rfl (by decide) encN encN_len encN_one l5 [] 0 _ HO5.out _ n5 _ rfl rfl hn5 HR5.out.nil HR5.out.row (by omega) (by omega) HB5.out.size ?_; intro v6 w6 hown6 hg6 hf6; have HO6 := hid hown6; have HB6 := hid (Below.own HB5.out hg6 HB5.out.size HO5.out); clear hown6 hg6 hf6))
  have HALL : Hid (∀ z ∈ [] ++ l5 ++ rhosOf x2, z = 0) := by
    intro z hz
    rcases List.mem_append.1 hz with hz | hz
    · exact zs_mem HZ5.out z (by simpa using hz)
    · exact HF2.out z hz
  obtain ⟨q9, c9, hv9, hrow9⟩ := OwnE.isRow encN_len (by omega) HO8.out
  subst hv9
  have HR9 := hid hrow9
  obtain ⟨n9, hn9⟩ : ∃ n9, 0 + n5 + n7 = n9 := ⟨_, rfl⟩
  rw [hn9] at HR9 ⊢
  generalize ([] ++ l5 ++ rhosOf x2) = l9 at *
  have hm9 := HR9.out.max
  have HLY8 := hid (LR.lies_below HB8.out _ HLY3.out)
  have HRW8 := hid (HRW3.out.below HB8.out)
  have HY8 := hid ((HB8.out.block _ (lt_heap HY3.out)).trans HY3.out)
  have HB := hid (HB.out.trans (HB8.out.mono HB.out.size))
  clear hrow9 hn9 HO8 HO7 HO6 HO5 HO4 HB4 HB5 HB6 HB7 HB8 HR5 HR7 HY36 HY3 HLY3 HRW3 hn5 hn7 hn7' hz5'
  go_wp2_with fail
  go_loopw [8] (fun i wr => ∃ k : Nat, k ≤ n9 ∧ i = .int .i64 k ∧ wr = w8) (fun i _ => n9 - (intOf i).toNat)
  case atStart => exact ⟨0, Nat.zero_le _, rfl, rfl⟩
  case round =>
    obtain ⟨k, hk, rfl, rfl⟩ := hrel
    by_cases hlt : k < n9
    · obtain ⟨x, hx⟩ := get_of_lt (l := l9) (j := k) (by rw [HR9.out.len]; exact hlt)
      obtain ⟨b, o, rfl, d0⟩ := HR9.out.row.num hx
      have hx0 : x = 0 := HALL.out x (List.mem_of_getElem? hx)
      subst hx0
      clear hx
      go_wp2_with fail
      go_roundw
      case rel => exact ⟨k + 1, by omega, by go_num, by trivial⟩
      case measure => simp [intOf]; omega
    · have hkn : k = n9 := by omega
      subst hkn
      go_wp2_with (first
        | (refine wpList_load_midG (by rfl) 28 _ rfl g3 0 rfl [.int .u8 y3.head.kind, .int .i64 y3.head.rho, .slice y3.head.ep y3.head.en y3.head.ec, .slice y3.head.kp y3.head.kn y3.head.kc] _ (r4 HY8.out) Tryz.underlying28 rfl (by kernel_rfl) ?_)
        | (go_at_call 17; refine (ref_May12_any y3 _ HLY8.out).mono ?_; rw [HM0.out]; rintro e w9 ⟨rfl, hb⟩; have HB := hid (HB.out.trans (hb.mono HB.out.size)); have HRW8 := hid (HRW8.out.below hb); clear hb)
        | (go_at_call 18; refine (ref_May11_is HF5.out HRW8.out).mono ?_; rintro e w9 ⟨rfl, hb⟩; have HB := hid (HB.out.trans (hb.mono HB.out.size)); clear hb)
        | (go_at_call 11; refine (awake15_any (HV.out.below HB.out)).mono ?_; rintro e w9 ⟨rfl, hb⟩; have HB := hid (HB.out.trans (hb.mono HB.out.size)); clear hb))
      go_ret
      exact ⟨rfl, HB.out⟩
theorem checkOuter_walk {w : World} (hv : Vr w) (t : PA) (hl : LA.lies w t) :
    Calls Tryz.prog 4 #[aggT t.head] w fun e w' => e = .returned (.bool true) ∧ Below w.heap.size w w' := by
  cases hr : checkR t with
  | error e => obtain ⟨z, no⟩ := e; exact outer_err hv t hl hr
  | ok x => exact outer_ok hv t hl hr
end
end Go.Proofs.YtkdjnegfnhldpaaGreatDoor
