/- The law ShapeThree: its walk. -/
import Derived.Test.YtdhdphgecoplbaaThreeA
namespace Go.Proofs.Ytdhdphgecoplbaa
open Go.RowKit
set_option maxHeartbeats 4000000 in
theorem three_any (r1 c1 r2 c2 r3 c3 : Int) (A1 A2 A3 : Option Addr) (n1 cap1 n2 cap2 n3 cap3 : Nat) (l1 l2 l3 : List Val) (w : World) (h1 : ArrIn w A1 n1 cap1 l1) (h2 : ArrIn w A2 n2 cap2 l2) (h3 : ArrIn w A3 n3 cap3 l3) :
    Calls Try.prog 6 #[AV r1 c1 (.slice A1 n1 cap1), AV r2 c2 (.slice A2 n2 cap2), AV r3 c3 (.slice A3 n3 cap3)] w fun e w' => e = .returned (.bool true) ∧ Ext w w' := by
  go_enter Try.func6, Try.ntmps6
  go_wp2_with fail
  refine (awake_any _).mono ?_; rintro e w' ⟨rfl, hb⟩; obtain ⟨os1, d1, rfl⟩ := hb.more; clear hb
  go_wp2_with fail
  refine (small_any _ _ _ _ _ _ _ (h1.ext (by repeat (first | exact Ext.refl _ | exact ext_app _ _ _ _ _ | exact ext_app2 _ _ _ _ _ _ | apply Ext.drew | apply Ext.alloc | apply Ext.more_)))).mono ?_; rintro e w' ⟨sm, rfl, hsm, hb⟩; obtain ⟨os2, d2, rfl⟩ := hb.more; clear hb; rcases hsm with rfl | ⟨rfl, hn, htx⟩; (focus go_wp2; go_ret; exact ⟨rfl, by repeat (first | exact Ext.refl _ | exact ext_app _ _ _ _ _ | exact ext_app2 _ _ _ _ _ _ | apply Ext.drew | apply Ext.alloc | apply Ext.more_)⟩); clear hn htx; go_wp2_with fail; generalize os1 ++ os2 = oz2; clear os1 os2
  refine (small_any _ _ _ _ _ _ _ (h2.ext (by repeat (first | exact Ext.refl _ | exact ext_app _ _ _ _ _ | exact ext_app2 _ _ _ _ _ _ | apply Ext.drew | apply Ext.alloc | apply Ext.more_)))).mono ?_; rintro e w' ⟨sm, rfl, hsm, hb⟩; obtain ⟨os3, d3, rfl⟩ := hb.more; clear hb; rcases hsm with rfl | ⟨rfl, hn, htx⟩; (focus go_wp2; go_ret; exact ⟨rfl, by repeat (first | exact Ext.refl _ | exact ext_app _ _ _ _ _ | exact ext_app2 _ _ _ _ _ _ | apply Ext.drew | apply Ext.alloc | apply Ext.more_)⟩); clear hn htx; go_wp2_with fail; generalize oz2 ++ os3 = oz3; clear oz2 os3
  refine (small_any _ _ _ _ _ _ _ (h3.ext (by repeat (first | exact Ext.refl _ | exact ext_app _ _ _ _ _ | exact ext_app2 _ _ _ _ _ _ | apply Ext.drew | apply Ext.alloc | apply Ext.more_)))).mono ?_; rintro e w' ⟨sm, rfl, hsm, hb⟩; obtain ⟨os4, d4, rfl⟩ := hb.more; clear hb; rcases hsm with rfl | ⟨rfl, hn, htx⟩; (focus go_wp2; go_ret; exact ⟨rfl, by repeat (first | exact Ext.refl _ | exact ext_app _ _ _ _ _ | exact ext_app2 _ _ _ _ _ _ | apply Ext.drew | apply Ext.alloc | apply Ext.more_)⟩); clear hn htx; go_wp2_with fail; generalize oz3 ++ os4 = oz4; clear oz3 os4
  refine (refRightA_any _ _ _ _ _ _ _ (h1.ext (by repeat (first | exact Ext.refl _ | exact ext_app _ _ _ _ _ | exact ext_app2 _ _ _ _ _ _ | apply Ext.drew | apply Ext.alloc | apply Ext.more_)))).mono ?_; rintro e w' ⟨rfl, hb⟩; obtain ⟨os5, d5, rfl⟩ := hb.more; clear hb; generalize hr1 : refRightA _ _ _ = b; cases b; (focus go_wp2; go_ret; exact ⟨rfl, by repeat (first | exact Ext.refl _ | exact ext_app _ _ _ _ _ | exact ext_app2 _ _ _ _ _ _ | apply Ext.drew | apply Ext.alloc | apply Ext.more_)⟩); go_wp2_with fail; generalize oz4 ++ os5 = oz5; clear oz4 os5
  refine (refRightA_any _ _ _ _ _ _ _ (h2.ext (by repeat (first | exact Ext.refl _ | exact ext_app _ _ _ _ _ | exact ext_app2 _ _ _ _ _ _ | apply Ext.drew | apply Ext.alloc | apply Ext.more_)))).mono ?_; rintro e w' ⟨rfl, hb⟩; obtain ⟨os6, d6, rfl⟩ := hb.more; clear hb; generalize hr2 : refRightA _ _ _ = b; cases b; (focus go_wp2; go_ret; exact ⟨rfl, by repeat (first | exact Ext.refl _ | exact ext_app _ _ _ _ _ | exact ext_app2 _ _ _ _ _ _ | apply Ext.drew | apply Ext.alloc | apply Ext.more_)⟩); go_wp2_with fail; generalize oz5 ++ os6 = oz6; clear oz5 os6
  refine (refRightA_any _ _ _ _ _ _ _ (h3.ext (by repeat (first | exact Ext.refl _ | exact ext_app _ _ _ _ _ | exact ext_app2 _ _ _ _ _ _ | apply Ext.drew | apply Ext.alloc | apply Ext.more_)))).mono ?_; rintro e w' ⟨rfl, hb⟩; obtain ⟨os7, d7, rfl⟩ := hb.more; clear hb
  generalize hr3 : refRightA _ _ _ = b
  cases b
  · go_wp2
    go_ret
    exact ⟨rfl, by repeat (first | exact Ext.refl _ | exact ext_app _ _ _ _ _ | exact ext_app2 _ _ _ _ _ _ | apply Ext.drew | apply Ext.alloc | apply Ext.more_)⟩
  rw [← rightA_eq _ _ _ h1.ok] at hr1
  rw [← rightA_eq _ _ _ h2.ok] at hr2
  rw [← rightA_eq _ _ _ h3.ok] at hr3
  obtain ⟨R1, C1, rfl, rfl, _⟩ := right_parts hr1
  obtain ⟨R2, C2, rfl, rfl, _⟩ := right_parts hr2
  obtain ⟨R3, C3, rfl, rfl, _⟩ := right_parts hr3
  have hent1 : ∀ (args : Array Value) (W : World), (callFunc 35 args).run Try.prog W = .ok (.enter 35 args) W := fun args W => by go_simp
  have hent2 : ∀ (args : Array Value) (W : World), (callFunc 36 args).run Try.prog W = .ok (.enter 36 args) W := fun args W => by go_simp
  go_wp2_with fail
  go_loopw [45] (fun i wr => ∃ k : Nat, k ≤ 2 ∧ i = .int .i64 k ∧ Ext w wr ∧ ABox w.heap.size R1 C1 A1 n1 cap1 wr ∧ ABox (w.heap.size + 1) R2 C2 A2 n2 cap2 wr ∧ ABox (w.heap.size + 1 + 1) R3 C3 A3 n3 cap3 wr ∧ wr.cell? ⟨w.heap.size + 1 + 1 + 1 + (oz6.size + os7.size), 0, none⟩ = some (.func (.func 35) #[] #[]) ∧ wr.cell? ⟨w.heap.size + 1 + 1 + 1 + (oz6.size + os7.size), 1, none⟩ = some (.func (.func 36) #[] #[])) (fun i _ => 2 - (intOf i).toNat)
  case atStart => exact ⟨0, Nat.zero_le _, rfl, by repeat (first | exact Ext.refl _ | exact ext_app _ _ _ _ _ | exact ext_app2 _ _ _ _ _ _ | apply Ext.drew | apply Ext.alloc | apply Ext.more_), by refine ⟨?_, ?_, ?_, ?_⟩ <;> simp [go_sem], by refine ⟨?_, ?_, ?_, ?_⟩ <;> simp [go_sem], by refine ⟨?_, ?_, ?_, ?_⟩ <;> simp [go_sem], by simp [go_sem], by simp [go_sem]⟩
  case round =>
    obtain ⟨k, hk, rfl, hX, b1, b2, b3, f0, f1⟩ := hrel
    by_cases hlt : k < 2
    · obtain ⟨f, J, hent, hf, hJ, hass, hrt⟩ : ∃ (f : FuncId) (J : NA → NA → Option NA), (∀ (args : Array Value) (W : World), (callFunc f args).run Try.prog W = .ok (.enter f args) W) ∧ wr.cell? ⟨w.heap.size + 1 + 1 + 1 + (oz6.size + os7.size), k, none⟩ = some (.func (.func f) #[] #[]) ∧ Hid (JoinC f J) ∧ Hid (∀ a b c, (J a b).bind (fun x => J x c) = (J b c).bind (fun y => J a y)) ∧ Hid (∀ a b c : NA, a.right → b.right → J a b = some c → c.right) := by
        rcases (by omega : k = 0 ∨ k = 1) with rfl | rfl
        · exact ⟨_, besideO, hent1, f0, Lib.hid beside_c, Lib.hid beside_three, Lib.hid @beside_right⟩
        · exact ⟨_, belowO, hent2, f1, Lib.hid below_c, Lib.hid below_three, Lib.hid @below_right⟩
      have HB := Lib.hid (And.intro b1 (And.intro b2 (And.intro b3 (And.intro f0 f1))))
      have h1' := h1.ext hX
      have h2' := h2.ext hX
      have h3' := h3.ext hX
      obtain ⟨p0, p1, p2, p3⟩ := b1
      obtain ⟨q0, q1, q2, q3⟩ := b2
      obtain ⟨u0, u1, u2, u3⟩ := b3
      clear hent1 hent2 h1 h2 h3
      have hfl : w.heap.size + 1 + 1 + 1 + (oz6.size + os7.size) < wr.heap.size := lt_of_cell f0
      clear f0 f1
      go_wp2_with fail
      cases hab : J ⟨R1, C1, l1⟩ ⟨R2, C2, l2⟩ with
      | none =>
        refine (hJ.out ⟨R1, C1, l1⟩ ⟨R2, C2, l2⟩ _ _ _ _ _ _ _ h1' h2' hr1 hr2 ⟨0, 0, []⟩ false (by simp [orZ, hab]) (by simp [hab])).mono ?_; rintro e w' ⟨D1, m1, c1, rfl, hA1, hs1, hb⟩; obtain ⟨os1, d1, rfl⟩ := hb.more; clear hb
        clear hA1 hs1
        go_wp2_with fail
        cases hbc : J ⟨R2, C2, l2⟩ ⟨R3, C3, l3⟩ with
        | none =>
          refine (hJ.out ⟨R2, C2, l2⟩ ⟨R3, C3, l3⟩ _ _ _ _ _ _ _ (h2'.ext (by repeat (first | exact Ext.refl _ | exact ext_app _ _ _ _ _ | exact ext_app2 _ _ _ _ _ _ | apply Ext.drew | apply Ext.alloc | apply Ext.more_))) (h3'.ext (by repeat (first | exact Ext.refl _ | exact ext_app _ _ _ _ _ | exact ext_app2 _ _ _ _ _ _ | apply Ext.drew | apply Ext.alloc | apply Ext.more_))) hr2 hr3 ⟨0, 0, []⟩ false (by simp [orZ, hbc]) (by simp [hbc])).mono ?_; rintro e w' ⟨D2, m2, c2, rfl, hA2, hs2, hb⟩; obtain ⟨os2, d2, rfl⟩ := hb.more; clear hb
          clear hA2 hs2
          go_wp2_with fail
          exact ⟨⟨k + 1, by omega, by go_num, hX.trans (by repeat (first | exact Ext.refl _ | exact ext_app _ _ _ _ _ | exact ext_app2 _ _ _ _ _ _ | apply Ext.drew | apply Ext.alloc | apply Ext.more_)), HB.out.1.ext (by repeat (first | exact Ext.refl _ | exact ext_app _ _ _ _ _ | exact ext_app2 _ _ _ _ _ _ | apply Ext.drew | apply Ext.alloc | apply Ext.more_)), HB.out.2.1.ext (by repeat (first | exact Ext.refl _ | exact ext_app _ _ _ _ _ | exact ext_app2 _ _ _ _ _ _ | apply Ext.drew | apply Ext.alloc | apply Ext.more_)), HB.out.2.2.1.ext (by repeat (first | exact Ext.refl _ | exact ext_app _ _ _ _ _ | exact ext_app2 _ _ _ _ _ _ | apply Ext.drew | apply Ext.alloc | apply Ext.more_)), Ext.cell_some (by repeat (first | exact Ext.refl _ | exact ext_app _ _ _ _ _ | exact ext_app2 _ _ _ _ _ _ | apply Ext.drew | apply Ext.alloc | apply Ext.more_)) HB.out.2.2.2.1, Ext.cell_some (by repeat (first | exact Ext.refl _ | exact ext_app _ _ _ _ _ | exact ext_app2 _ _ _ _ _ _ | apply Ext.drew | apply Ext.alloc | apply Ext.more_)) HB.out.2.2.2.2⟩, by simp [intOf]; omega⟩
        | some y =>
          have hay : J ⟨R1, C1, l1⟩ y = none := by simpa [hab, hbc] using (hass.out ⟨R1, C1, l1⟩ ⟨R2, C2, l2⟩ ⟨R3, C3, l3⟩).symm
          have hry := hrt.out ⟨R2, C2, l2⟩ ⟨R3, C3, l3⟩ _ hr2 hr3 hbc
          refine (hJ.out ⟨R2, C2, l2⟩ ⟨R3, C3, l3⟩ _ _ _ _ _ _ _ (h2'.ext (by repeat (first | exact Ext.refl _ | exact ext_app _ _ _ _ _ | exact ext_app2 _ _ _ _ _ _ | apply Ext.drew | apply Ext.alloc | apply Ext.more_))) (h3'.ext (by repeat (first | exact Ext.refl _ | exact ext_app _ _ _ _ _ | exact ext_app2 _ _ _ _ _ _ | apply Ext.drew | apply Ext.alloc | apply Ext.more_))) hr2 hr3 y true (by simp [orZ, hbc]) (by simp [hbc])).mono ?_; rintro e w' ⟨D2, m2, c2, rfl, hA2, hs2, hb⟩; obtain ⟨os2, d2, rfl⟩ := hb.more; clear hb
          clear hs2
          go_wp2_with fail
          refine (hJ.out ⟨R1, C1, l1⟩ y _ _ _ _ _ _ _ (h1'.ext (by repeat (first | exact Ext.refl _ | exact ext_app _ _ _ _ _ | exact ext_app2 _ _ _ _ _ _ | apply Ext.drew | apply Ext.alloc | apply Ext.more_))) (hA2.ext (by repeat (first | exact Ext.refl _ | exact ext_app _ _ _ _ _ | exact ext_app2 _ _ _ _ _ _ | apply Ext.drew | apply Ext.alloc | apply Ext.more_))) hr1 hry ⟨0, 0, []⟩ false (by simp [orZ, hay]) (by simp [hay])).mono ?_; rintro e w' ⟨D3, m3, c3, rfl, hA3, hs3, hb⟩; obtain ⟨os3, d3, rfl⟩ := hb.more; clear hb
          clear hA3 hs3
          go_wp2_with fail
          exact ⟨⟨k + 1, by omega, by go_num, hX.trans (by repeat (first | exact Ext.refl _ | exact ext_app _ _ _ _ _ | exact ext_app2 _ _ _ _ _ _ | apply Ext.drew | apply Ext.alloc | apply Ext.more_)), HB.out.1.ext (by repeat (first | exact Ext.refl _ | exact ext_app _ _ _ _ _ | exact ext_app2 _ _ _ _ _ _ | apply Ext.drew | apply Ext.alloc | apply Ext.more_)), HB.out.2.1.ext (by repeat (first | exact Ext.refl _ | exact ext_app _ _ _ _ _ | exact ext_app2 _ _ _ _ _ _ | apply Ext.drew | apply Ext.alloc | apply Ext.more_)), HB.out.2.2.1.ext (by repeat (first | exact Ext.refl _ | exact ext_app _ _ _ _ _ | exact ext_app2 _ _ _ _ _ _ | apply Ext.drew | apply Ext.alloc | apply Ext.more_)), Ext.cell_some (by repeat (first | exact Ext.refl _ | exact ext_app _ _ _ _ _ | exact ext_app2 _ _ _ _ _ _ | apply Ext.drew | apply Ext.alloc | apply Ext.more_)) HB.out.2.2.2.1, Ext.cell_some (by repeat (first | exact Ext.refl _ | exact ext_app _ _ _ _ _ | exact ext_app2 _ _ _ _ _ _ | apply Ext.drew | apply Ext.alloc | apply Ext.more_)) HB.out.2.2.2.2⟩, by simp [intOf]; omega⟩
      | some x =>
        have hrx := hrt.out ⟨R1, C1, l1⟩ ⟨R2, C2, l2⟩ _ hr1 hr2 hab
        refine (hJ.out ⟨R1, C1, l1⟩ ⟨R2, C2, l2⟩ _ _ _ _ _ _ _ h1' h2' hr1 hr2 x true (by simp [orZ, hab]) (by simp [hab])).mono ?_; rintro e w' ⟨D1, m1, c1, rfl, hA1, hs1, hb⟩; obtain ⟨os1, d1, rfl⟩ := hb.more; clear hb
        clear hs1
        go_wp2_with fail
        cases hxc : J x ⟨R3, C3, l3⟩ with
        | none =>
          refine (hJ.out x ⟨R3, C3, l3⟩ _ _ _ _ _ _ _ (hA1.ext (by repeat (first | exact Ext.refl _ | exact ext_app _ _ _ _ _ | exact ext_app2 _ _ _ _ _ _ | apply Ext.drew | apply Ext.alloc | apply Ext.more_))) (h3'.ext (by repeat (first | exact Ext.refl _ | exact ext_app _ _ _ _ _ | exact ext_app2 _ _ _ _ _ _ | apply Ext.drew | apply Ext.alloc | apply Ext.more_))) hrx hr3 ⟨0, 0, []⟩ false (by simp [orZ, hxc]) (by simp [hxc])).mono ?_; rintro e w' ⟨D3, m3, c3, rfl, hA3, hs3, hb⟩; obtain ⟨os3, d3, rfl⟩ := hb.more; clear hb
          clear hA3 hs3 hA1
          go_wp2_with fail
          cases hbc : J ⟨R2, C2, l2⟩ ⟨R3, C3, l3⟩ with
          | none =>
            refine (hJ.out ⟨R2, C2, l2⟩ ⟨R3, C3, l3⟩ _ _ _ _ _ _ _ (h2'.ext (by repeat (first | exact Ext.refl _ | exact ext_app _ _ _ _ _ | exact ext_app2 _ _ _ _ _ _ | apply Ext.drew | apply Ext.alloc | apply Ext.more_))) (h3'.ext (by repeat (first | exact Ext.refl _ | exact ext_app _ _ _ _ _ | exact ext_app2 _ _ _ _ _ _ | apply Ext.drew | apply Ext.alloc | apply Ext.more_))) hr2 hr3 ⟨0, 0, []⟩ false (by simp [orZ, hbc]) (by simp [hbc])).mono ?_; rintro e w' ⟨D2, m2, c2, rfl, hA2, hs2, hb⟩; obtain ⟨os2, d2, rfl⟩ := hb.more; clear hb
            clear hA2 hs2
            go_wp2_with fail
            exact ⟨⟨k + 1, by omega, by go_num, hX.trans (by repeat (first | exact Ext.refl _ | exact ext_app _ _ _ _ _ | exact ext_app2 _ _ _ _ _ _ | apply Ext.drew | apply Ext.alloc | apply Ext.more_)), HB.out.1.ext (by repeat (first | exact Ext.refl _ | exact ext_app _ _ _ _ _ | exact ext_app2 _ _ _ _ _ _ | apply Ext.drew | apply Ext.alloc | apply Ext.more_)), HB.out.2.1.ext (by repeat (first | exact Ext.refl _ | exact ext_app _ _ _ _ _ | exact ext_app2 _ _ _ _ _ _ | apply Ext.drew | apply Ext.alloc | apply Ext.more_)), HB.out.2.2.1.ext (by repeat (first | exact Ext.refl _ | exact ext_app _ _ _ _ _ | exact ext_app2 _ _ _ _ _ _ | apply Ext.drew | apply Ext.alloc | apply Ext.more_)), Ext.cell_some (by repeat (first | exact Ext.refl _ | exact ext_app _ _ _ _ _ | exact ext_app2 _ _ _ _ _ _ | apply Ext.drew | apply Ext.alloc | apply Ext.more_)) HB.out.2.2.2.1, Ext.cell_some (by repeat (first | exact Ext.refl _ | exact ext_app _ _ _ _ _ | exact ext_app2 _ _ _ _ _ _ | apply Ext.drew | apply Ext.alloc | apply Ext.more_)) HB.out.2.2.2.2⟩, by simp [intOf]; omega⟩
          | some y =>
            have hay : J ⟨R1, C1, l1⟩ y = none := by simpa [hab, hbc, hxc] using (hass.out ⟨R1, C1, l1⟩ ⟨R2, C2, l2⟩ ⟨R3, C3, l3⟩).symm
            have hry := hrt.out ⟨R2, C2, l2⟩ ⟨R3, C3, l3⟩ _ hr2 hr3 hbc
            refine (hJ.out ⟨R2, C2, l2⟩ ⟨R3, C3, l3⟩ _ _ _ _ _ _ _ (h2'.ext (by repeat (first | exact Ext.refl _ | exact ext_app _ _ _ _ _ | exact ext_app2 _ _ _ _ _ _ | apply Ext.drew | apply Ext.alloc | apply Ext.more_))) (h3'.ext (by repeat (first | exact Ext.refl _ | exact ext_app _ _ _ _ _ | exact ext_app2 _ _ _ _ _ _ | apply Ext.drew | apply Ext.alloc | apply Ext.more_))) hr2 hr3 y true (by simp [orZ, hbc]) (by simp [hbc])).mono ?_; rintro e w' ⟨D2, m2, c2, rfl, hA2, hs2, hb⟩; obtain ⟨os2, d2, rfl⟩ := hb.more; clear hb
            clear hs2
            simp only [more_more] at hA2
            go_wp2_with fail
            refine (hJ.out ⟨R1, C1, l1⟩ y _ _ _ _ _ _ _ (h1'.ext (by repeat (first | exact Ext.refl _ | exact ext_app _ _ _ _ _ | exact ext_app2 _ _ _ _ _ _ | apply Ext.drew | apply Ext.alloc | apply Ext.more_))) (hA2.ext (by repeat (first | exact Ext.refl _ | exact ext_app _ _ _ _ _ | exact ext_app2 _ _ _ _ _ _ | apply Ext.drew | apply Ext.alloc | apply Ext.more_))) hr1 hry ⟨0, 0, []⟩ false (by simp [orZ, hay]) (by simp [hay])).mono ?_; rintro e w' ⟨D4, m4, c4, rfl, hA4, hs4, hb⟩; obtain ⟨os4, d4, rfl⟩ := hb.more; clear hb
            clear hA4 hs4 hA2
            go_wp2_with fail
            exact ⟨⟨k + 1, by omega, by go_num, hX.trans (by repeat (first | exact Ext.refl _ | exact ext_app _ _ _ _ _ | exact ext_app2 _ _ _ _ _ _ | apply Ext.drew | apply Ext.alloc | apply Ext.more_)), HB.out.1.ext (by repeat (first | exact Ext.refl _ | exact ext_app _ _ _ _ _ | exact ext_app2 _ _ _ _ _ _ | apply Ext.drew | apply Ext.alloc | apply Ext.more_)), HB.out.2.1.ext (by repeat (first | exact Ext.refl _ | exact ext_app _ _ _ _ _ | exact ext_app2 _ _ _ _ _ _ | apply Ext.drew | apply Ext.alloc | apply Ext.more_)), HB.out.2.2.1.ext (by repeat (first | exact Ext.refl _ | exact ext_app _ _ _ _ _ | exact ext_app2 _ _ _ _ _ _ | apply Ext.drew | apply Ext.alloc | apply Ext.more_)), Ext.cell_some (by repeat (first | exact Ext.refl _ | exact ext_app _ _ _ _ _ | exact ext_app2 _ _ _ _ _ _ | apply Ext.drew | apply Ext.alloc | apply Ext.more_)) HB.out.2.2.2.1, Ext.cell_some (by repeat (first | exact Ext.refl _ | exact ext_app _ _ _ _ _ | exact ext_app2 _ _ _ _ _ _ | apply Ext.drew | apply Ext.alloc | apply Ext.more_)) HB.out.2.2.2.2⟩, by simp [intOf]; omega⟩
        | some z =>
          obtain ⟨y, hbc, hay⟩ : ∃ y, J ⟨R2, C2, l2⟩ ⟨R3, C3, l3⟩ = some y ∧ J ⟨R1, C1, l1⟩ y = some z := by
            have := (hass.out ⟨R1, C1, l1⟩ ⟨R2, C2, l2⟩ ⟨R3, C3, l3⟩).symm
            rw [hab, Option.bind_some, hxc] at this
            exact Option.bind_eq_some_iff.1 this
          have hry := hrt.out ⟨R2, C2, l2⟩ ⟨R3, C3, l3⟩ _ hr2 hr3 hbc
          have hss : sameA z.R z.C z.l z.R z.C z.l = true := by simp [sameA]
          refine (hJ.out x ⟨R3, C3, l3⟩ _ _ _ _ _ _ _ (hA1.ext (by repeat (first | exact Ext.refl _ | exact ext_app _ _ _ _ _ | exact ext_app2 _ _ _ _ _ _ | apply Ext.drew | apply Ext.alloc | apply Ext.more_))) (h3'.ext (by repeat (first | exact Ext.refl _ | exact ext_app _ _ _ _ _ | exact ext_app2 _ _ _ _ _ _ | apply Ext.drew | apply Ext.alloc | apply Ext.more_))) hrx hr3 z true (by simp [orZ, hxc]) (by simp [hxc])).mono ?_; rintro e w' ⟨D3, m3, c3, rfl, hA3, hs3, hb⟩; obtain ⟨os3, d3, rfl⟩ := hb.more; clear hb
          have hA3' : ArrIn (more ((more wr os1 d1).alloc (.cells #[.int .i64 z.R, .int .i64 z.C, .slice D3 m3 c3] 25)) os3 d3) D3 m3 c3 z.l := ⟨(by (try simp only [more_more] at hs3); (try simp only [drew_more] at hs3); (try simp only [more_drew] at hs3); (try simp only [Array.append_assoc] at hs3); exact Rd.swap hs3 (by first | (simp; done) | (simp; omega) | omega) (by first | (simp; done) | (simp; omega) | omega) (by first | (simp; done) | (simp; omega) | omega)), hA3.len, hA3.cap, hA3.small, hA3.ok⟩
          clear hA3 hs3 hA1
          go_wp2_with fail
          refine (hJ.out ⟨R2, C2, l2⟩ ⟨R3, C3, l3⟩ _ _ _ _ _ _ _ (h2'.ext (by repeat (first | exact Ext.refl _ | exact ext_app _ _ _ _ _ | exact ext_app2 _ _ _ _ _ _ | apply Ext.drew | apply Ext.alloc | apply Ext.more_))) (h3'.ext (by repeat (first | exact Ext.refl _ | exact ext_app _ _ _ _ _ | exact ext_app2 _ _ _ _ _ _ | apply Ext.drew | apply Ext.alloc | apply Ext.more_))) hr2 hr3 y true (by simp [orZ, hbc]) (by simp [hbc])).mono ?_; rintro e w' ⟨D2, m2, c2, rfl, hA2, hs2, hb⟩; obtain ⟨os2, d2, rfl⟩ := hb.more; clear hb
          clear hs2
          simp only [more_more] at hA2
          go_wp2_with fail
          refine (hJ.out ⟨R1, C1, l1⟩ y _ _ _ _ _ _ _ (h1'.ext (by repeat (first | exact Ext.refl _ | exact ext_app _ _ _ _ _ | exact ext_app2 _ _ _ _ _ _ | apply Ext.drew | apply Ext.alloc | apply Ext.more_))) (hA2.ext (by repeat (first | exact Ext.refl _ | exact ext_app _ _ _ _ _ | exact ext_app2 _ _ _ _ _ _ | apply Ext.drew | apply Ext.alloc | apply Ext.more_))) hr1 hry z true (by simp [orZ, hay]) (by simp [hay])).mono ?_; rintro e w' ⟨D4, m4, c4, rfl, hA4, hs4, hb⟩; obtain ⟨os4, d4, rfl⟩ := hb.more; clear hb
          clear hA2
          go_wp2_with fail
          refine (refSame_any _ _ _ _ _ _ _ _ _ _ z.l z.l _ (hA3'.ext (by repeat (first | exact Ext.refl _ | exact ext_app _ _ _ _ _ | exact ext_app2 _ _ _ _ _ _ | apply Ext.drew | apply Ext.alloc | apply Ext.more_))) ⟨(by (try simp only [more_more] at hs4); (try simp only [drew_more] at hs4); (try simp only [more_drew] at hs4); (try simp only [Array.append_assoc] at hs4); exact Rd.swap hs4 (by first | (simp; done) | (simp; omega) | omega) (by first | (simp; done) | (simp; omega) | omega) (by first | (simp; done) | (simp; omega) | omega)), hA4.len, hA4.cap, hA4.small, hA4.ok⟩).mono ?_
          rintro e w' ⟨rfl, hb⟩
          obtain ⟨os5, d5, rfl⟩ := hb.more
          clear hb
          go_wp2_with fail
          exact ⟨⟨k + 1, by omega, by go_num, hX.trans (by repeat (first | exact Ext.refl _ | exact ext_app _ _ _ _ _ | exact ext_app2 _ _ _ _ _ _ | apply Ext.drew | apply Ext.alloc | apply Ext.more_)), HB.out.1.ext (by repeat (first | exact Ext.refl _ | exact ext_app _ _ _ _ _ | exact ext_app2 _ _ _ _ _ _ | apply Ext.drew | apply Ext.alloc | apply Ext.more_)), HB.out.2.1.ext (by repeat (first | exact Ext.refl _ | exact ext_app _ _ _ _ _ | exact ext_app2 _ _ _ _ _ _ | apply Ext.drew | apply Ext.alloc | apply Ext.more_)), HB.out.2.2.1.ext (by repeat (first | exact Ext.refl _ | exact ext_app _ _ _ _ _ | exact ext_app2 _ _ _ _ _ _ | apply Ext.drew | apply Ext.alloc | apply Ext.more_)), Ext.cell_some (by repeat (first | exact Ext.refl _ | exact ext_app _ _ _ _ _ | exact ext_app2 _ _ _ _ _ _ | apply Ext.drew | apply Ext.alloc | apply Ext.more_)) HB.out.2.2.2.1, Ext.cell_some (by repeat (first | exact Ext.refl _ | exact ext_app _ _ _ _ _ | exact ext_app2 _ _ _ _ _ _ | apply Ext.drew | apply Ext.alloc | apply Ext.more_)) HB.out.2.2.2.2⟩, by simp [intOf]; omega⟩
    · go_wp2
      go_ret
      exact ⟨rfl, hX⟩
end Go.Proofs.Ytdhdphgecoplbaa
