-- Made by a program of this workplace (wip/pr.sh) out of Lean's print of the translation; Lean checks it.
import Derived.Test.YtofjgdbiieanjaaAllx0
import Derived.Test.YtofjgdbiieanjaaAllx25
import Derived.Test.YtofjgdbiieanjaaAllx26
import Derived.Test.YtofjgdbiieanjaaAllx30
import Derived.Test.YtofjgdbiieanjaaAllx31
import Derived.Test.YtofjgdbiieanjaaOwn
namespace Go.Proofs.Ytofjgdbiieanjaa.All
open Go.Proofs.Ytofjgdbiieanjaa.Ext
open Go.RowKit Go.Proofs.YtofjgdbiieanjaaW.PrintWords Go.Proofs.YtofjgdbiieanjaaW.PrintLast Go.Proofs.YtofjgdbiieanjaaW.PrintMore
attribute [local go_sem] max2_int min2_int max_two min_two max_three min_three max_four min_four   -- for this text's walks alone
set_option linter.unusedVariables false
set_option linter.unusedSimpArgs false

/-! ### mantletlaw05_TcpBack: function 8 -/
def mantletlaw05_TcpBack.j0 : Nat → Int → Int → Int → List Int → Bool → Option (Bool)
  | 0, _, _, _, _, _ => none
  | k + 1, x0, x1, x6, x16, x119 => if x119 = true then (some false) else (if (x16.length : Int) = 0 then (none) else (if 0 ≤ (Int.tmod (wrap64 (Int.tdiv (wrap64 (x6)) 8)) (x16.length : Int)) then (if (Int.tmod (wrap64 (Int.tdiv (wrap64 (x6)) 8)) (x16.length : Int)) < (x16.length : Int) then (if 0 ≤ (Int.tmod x6 8) then ((tcp_Parse.f k x0 x1 (x16.set ((Int.tmod (wrap64 (Int.tdiv (wrap64 (x6)) 8)) (x16.length : Int)) : Int).toNat (Go.bits .xor .u8 (rd x16 (Int.tmod (wrap64 (Int.tdiv (wrap64 (x6)) 8)) (x16.length : Int))) (shl .u8 1 (Int.tmod x6 8))))).bind fun bt296 => ((mantletlaw05_awake.f k).bind fun t300 => (if t300 = true then (if bt296.2.2.2 = 7 then (some true) else (if bt296.2.2.2 = 6 then (some true) else (some (bt296.2.2.2 == 4)))) else (some false)))) else (none)) else (none)) else (none)))
def mantletlaw05_TcpBack.f (k : Nat) (a0 : Int) (a1 : Int) (a2 : Int) (a3 : Int) (a4 : Int) (l5 : List Int) (a6 : Int) : Option (Bool) := (mantletlaw05_short.f l5).bind fun t278 => ((tcp_Build.f k a0 a1 a2 a3 a4 t278).bind fun bt281 => (if bt281.2 = 0 then ((tcp_Parse.f k a0 a1 bt281.1).bind fun bt286 => ((tcp_Parse.f k a1 a0 bt281.1).bind fun bt290 => (if bt286.2.2.2 = 0 then (if bt286.1 = a2 then (if bt286.2.1 = a3 then (if bt286.2.2.1 = a4 then (if bt290.2.2.2 = 0 then (if bt290.1 = a2 then (if bt290.2.1 = a3 then (mantletlaw05_TcpBack.j0 k a0 a1 a6 bt281.1 ((bt281.1.length : Int) != (wrap64 (20 + (t278.length : Int))))) else (mantletlaw05_TcpBack.j0 k a0 a1 a6 bt281.1 true)) else (mantletlaw05_TcpBack.j0 k a0 a1 a6 bt281.1 true)) else (mantletlaw05_TcpBack.j0 k a0 a1 a6 bt281.1 true)) else (mantletlaw05_TcpBack.j0 k a0 a1 a6 bt281.1 true)) else (mantletlaw05_TcpBack.j0 k a0 a1 a6 bt281.1 true)) else (mantletlaw05_TcpBack.j0 k a0 a1 a6 bt281.1 true)) else (mantletlaw05_TcpBack.j0 k a0 a1 a6 bt281.1 true)))) else ((mantletlaw05_awake.f k).bind fun t285 => (if t285 = true then (if (bt281.1.length : Int) = 0 then (if bt281.2 = 11 then (some true) else (if bt281.2 = 2 then (some (decide ((t278.length : Int) > 1460))) else (some false))) else (some false)) else (some false)))))
theorem mantletlaw05_TcpBack.mono_l : ∀ k, (∀ y0 y1 y2 y3 y4, LeO (mantletlaw05_TcpBack.j0 k y0 y1 y2 y3 y4) (mantletlaw05_TcpBack.j0 (k + 1) y0 y1 y2 y3 y4))
  | 0 => fun _ _ _ _ _ r h => by simp [mantletlaw05_TcpBack.j0] at h
  | k + 1 => by
    have ih0 := mantletlaw05_TcpBack.mono_l k
    · intro y0 y1 y2 y3 y4
      unfold mantletlaw05_TcpBack.j0
      repeat' first
      | (with_reducible exact ih0 _ _ _ _ _)
      | (with_reducible exact mantletlaw05_awake.mono _)
      | (with_reducible exact tcp_Build.mono _ _ _ _ _ _ _)
      | (with_reducible exact tcp_Parse.mono _ _ _ _)
      | (with_reducible exact LeO.refl _)
      | (with_reducible exact LeO.none _)
      | (with_reducible refine LeO.ite ?_ ?_)
      | (with_reducible refine LeO.bind ?_ (fun _ => ?_))
      | exact ih0 _ _ _ _ _
      | exact mantletlaw05_awake.mono _
      | exact tcp_Build.mono _ _ _ _ _ _ _
      | exact tcp_Parse.mono _ _ _ _
      | exact LeO.none _
      | refine LeO.ite ?_ ?_
      | refine LeO.bind ?_ (fun _ => ?_)
theorem mantletlaw05_TcpBack.mono : ∀ a0 a1 a2 a3 a4 a5 a6 k, LeO (mantletlaw05_TcpBack.f k a0 a1 a2 a3 a4 a5 a6) (mantletlaw05_TcpBack.f (k + 1) a0 a1 a2 a3 a4 a5 a6) := by
  intro a0 a1 a2 a3 a4 a5 a6 k
  have ih0 := mantletlaw05_TcpBack.mono_l k
  unfold mantletlaw05_TcpBack.f
  repeat' first
      | (with_reducible exact ih0 _ _ _ _ _)
      | (with_reducible exact mantletlaw05_awake.mono _)
      | (with_reducible exact tcp_Build.mono _ _ _ _ _ _ _)
      | (with_reducible exact tcp_Parse.mono _ _ _ _)
      | (with_reducible exact LeO.refl _)
      | (with_reducible exact LeO.none _)
      | (with_reducible refine LeO.ite ?_ ?_)
      | (with_reducible refine LeO.bind ?_ (fun _ => ?_))
      | exact ih0 _ _ _ _ _
      | exact mantletlaw05_awake.mono _
      | exact tcp_Build.mono _ _ _ _ _ _ _
      | exact tcp_Parse.mono _ _ _ _
      | exact LeO.none _
      | refine LeO.ite ?_ ?_
      | refine LeO.bind ?_ (fun _ => ?_)
set_option maxHeartbeats 8000000 in
set_option maxRecDepth 100000 in
theorem mantletlaw05_TcpBack.calls (k : Nat) (a0 : Int) (a1 : Int) (a2 : Int) (a3 : Int) (a4 : Int) (A5 : Option Addr) (c5 : Nat) (l5 : List Int) (a6 : Int) (r : Bool) (w : World) (hr5 : Kd.C (Kd.int .u8) w A5 l5.length l5) (hc5 : l5.length ≤ c5) (h : mantletlaw05_TcpBack.f k a0 a1 a2 a3 a4 l5 a6 = some r) :
    Calls Try.prog 8 #[.int .u32 a0, .int .u32 a1, .int .u16 a2, .int .u16 a3, .int .u8 a4, .slice A5 l5.length c5, .int .u16 a6] w fun e w' => e = .returned (.bool r) ∧ Below w.heap.size w w' := by
  have HR5 := Aside0.mk hr5
  have HC5 := Aside0.mk hc5
  clear hr5 hc5
  have HB := Aside0.mk (Below.refl w.heap.size w)
  have H : ((mantletlaw05_short.f l5).bind fun t278 => ((tcp_Build.f k a0 a1 a2 a3 a4 t278).bind fun bt281 => (if bt281.2 = 0 then ((tcp_Parse.f k a0 a1 bt281.1).bind fun bt286 => ((tcp_Parse.f k a1 a0 bt281.1).bind fun bt290 => (if bt286.2.2.2 = 0 then (if bt286.1 = a2 then (if bt286.2.1 = a3 then (if bt286.2.2.1 = a4 then (if bt290.2.2.2 = 0 then (if bt290.1 = a2 then (if bt290.2.1 = a3 then (mantletlaw05_TcpBack.j0 k a0 a1 a6 bt281.1 ((bt281.1.length : Int) != (wrap64 (20 + (t278.length : Int))))) else (mantletlaw05_TcpBack.j0 k a0 a1 a6 bt281.1 true)) else (mantletlaw05_TcpBack.j0 k a0 a1 a6 bt281.1 true)) else (mantletlaw05_TcpBack.j0 k a0 a1 a6 bt281.1 true)) else (mantletlaw05_TcpBack.j0 k a0 a1 a6 bt281.1 true)) else (mantletlaw05_TcpBack.j0 k a0 a1 a6 bt281.1 true)) else (mantletlaw05_TcpBack.j0 k a0 a1 a6 bt281.1 true)) else (mantletlaw05_TcpBack.j0 k a0 a1 a6 bt281.1 true)))) else ((mantletlaw05_awake.f k).bind fun t285 => (if t285 = true then (if (bt281.1.length : Int) = 0 then (if bt281.2 = 11 then (some true) else (if bt281.2 = 2 then (some (decide ((t278.length : Int) > 1460))) else (some false))) else (some false)) else (some false)))))) = some r := h
  clear h
  replace H := Option.bind_eq_some_iff.mp H
  obtain ⟨t278, A80, H⟩ := H
  replace H : ((tcp_Build.f k a0 a1 a2 a3 a4 t278).bind fun bt281 => (if bt281.2 = 0 then ((tcp_Parse.f k a0 a1 bt281.1).bind fun bt286 => ((tcp_Parse.f k a1 a0 bt281.1).bind fun bt290 => (if bt286.2.2.2 = 0 then (if bt286.1 = a2 then (if bt286.2.1 = a3 then (if bt286.2.2.1 = a4 then (if bt290.2.2.2 = 0 then (if bt290.1 = a2 then (if bt290.2.1 = a3 then (mantletlaw05_TcpBack.j0 k a0 a1 a6 bt281.1 ((bt281.1.length : Int) != (wrap64 (20 + (t278.length : Int))))) else (mantletlaw05_TcpBack.j0 k a0 a1 a6 bt281.1 true)) else (mantletlaw05_TcpBack.j0 k a0 a1 a6 bt281.1 true)) else (mantletlaw05_TcpBack.j0 k a0 a1 a6 bt281.1 true)) else (mantletlaw05_TcpBack.j0 k a0 a1 a6 bt281.1 true)) else (mantletlaw05_TcpBack.j0 k a0 a1 a6 bt281.1 true)) else (mantletlaw05_TcpBack.j0 k a0 a1 a6 bt281.1 true)) else (mantletlaw05_TcpBack.j0 k a0 a1 a6 bt281.1 true)))) else ((mantletlaw05_awake.f k).bind fun t285 => (if t285 = true then (if (bt281.1.length : Int) = 0 then (if bt281.2 = 11 then (some true) else (if bt281.2 = 2 then (some (decide ((t278.length : Int) > 1460))) else (some false))) else (some false)) else (some false))))) = some r := H
  have A8 := Aside0.mk A80
  clear A80
  replace H := Option.bind_eq_some_iff.mp H
  obtain ⟨⟨t281, t284⟩, A90, H⟩ := H
  replace H : (if t284 = 0 then ((tcp_Parse.f k a0 a1 t281).bind fun bt286 => ((tcp_Parse.f k a1 a0 t281).bind fun bt290 => (if bt286.2.2.2 = 0 then (if bt286.1 = a2 then (if bt286.2.1 = a3 then (if bt286.2.2.1 = a4 then (if bt290.2.2.2 = 0 then (if bt290.1 = a2 then (if bt290.2.1 = a3 then (mantletlaw05_TcpBack.j0 k a0 a1 a6 t281 ((t281.length : Int) != (wrap64 (20 + (t278.length : Int))))) else (mantletlaw05_TcpBack.j0 k a0 a1 a6 t281 true)) else (mantletlaw05_TcpBack.j0 k a0 a1 a6 t281 true)) else (mantletlaw05_TcpBack.j0 k a0 a1 a6 t281 true)) else (mantletlaw05_TcpBack.j0 k a0 a1 a6 t281 true)) else (mantletlaw05_TcpBack.j0 k a0 a1 a6 t281 true)) else (mantletlaw05_TcpBack.j0 k a0 a1 a6 t281 true)) else (mantletlaw05_TcpBack.j0 k a0 a1 a6 t281 true)))) else ((mantletlaw05_awake.f k).bind fun t285 => (if t285 = true then (if (t281.length : Int) = 0 then (if t284 = 11 then (some true) else (if t284 = 2 then (some (decide ((t278.length : Int) > 1460))) else (some false))) else (some false)) else (some false)))) = some r := H
  have A9 := Aside0.mk A90
  clear A90
  by_cases c10 : t284 = 0
  · rw [if_pos c10] at H
    have c10b0 : (t284 == 0) = true := beq_iff_eq.mpr c10
    have c10b1 : (t284 != 0) = false := bne_eq_false_iff_eq.mpr c10
    clear c10
    replace H := Option.bind_eq_some_iff.mp H
    obtain ⟨⟨t286, t287, t288, t289⟩, A110, H⟩ := H
    replace H : ((tcp_Parse.f k a1 a0 t281).bind fun bt290 => (if t289 = 0 then (if t286 = a2 then (if t287 = a3 then (if t288 = a4 then (if bt290.2.2.2 = 0 then (if bt290.1 = a2 then (if bt290.2.1 = a3 then (mantletlaw05_TcpBack.j0 k a0 a1 a6 t281 ((t281.length : Int) != (wrap64 (20 + (t278.length : Int))))) else (mantletlaw05_TcpBack.j0 k a0 a1 a6 t281 true)) else (mantletlaw05_TcpBack.j0 k a0 a1 a6 t281 true)) else (mantletlaw05_TcpBack.j0 k a0 a1 a6 t281 true)) else (mantletlaw05_TcpBack.j0 k a0 a1 a6 t281 true)) else (mantletlaw05_TcpBack.j0 k a0 a1 a6 t281 true)) else (mantletlaw05_TcpBack.j0 k a0 a1 a6 t281 true)) else (mantletlaw05_TcpBack.j0 k a0 a1 a6 t281 true))) = some r := H
    have A11 := Aside0.mk A110
    clear A110
    replace H := Option.bind_eq_some_iff.mp H
    obtain ⟨⟨t290, t291, t292, t293⟩, A120, H⟩ := H
    replace H : (if t289 = 0 then (if t286 = a2 then (if t287 = a3 then (if t288 = a4 then (if t293 = 0 then (if t290 = a2 then (if t291 = a3 then (mantletlaw05_TcpBack.j0 k a0 a1 a6 t281 ((t281.length : Int) != (wrap64 (20 + (t278.length : Int))))) else (mantletlaw05_TcpBack.j0 k a0 a1 a6 t281 true)) else (mantletlaw05_TcpBack.j0 k a0 a1 a6 t281 true)) else (mantletlaw05_TcpBack.j0 k a0 a1 a6 t281 true)) else (mantletlaw05_TcpBack.j0 k a0 a1 a6 t281 true)) else (mantletlaw05_TcpBack.j0 k a0 a1 a6 t281 true)) else (mantletlaw05_TcpBack.j0 k a0 a1 a6 t281 true)) else (mantletlaw05_TcpBack.j0 k a0 a1 a6 t281 true)) = some r := H
    have A12 := Aside0.mk A120
    clear A120
    have HC13 := Aside0.mk H
    clear H
    go_enter Try.func8, Try.ntmps8
    go_upto_region 7 with (first | ((with_reducible refine gate_callee (f := 31) rfl ?_); refine goesL_ (some 31) rfl rfl Try.func31 (by kernel_rfl) rfl #[.slice A5 l5.length c5] rfl (by (try simp only [List.map_toArray, List.map_cons, List.map_nil]); first | done | rfl) ?_; (with_reducible refine (mantletlaw05_short.calls (fun k_ => k_ < w.heap.size) _ _ l5 t278 _ ?side1 A8.out).mono ?_); (case side1 => exact Kd.V_mk HC5.out (Kd.F_below (Kd.C_F (Kd.heap_int .u8) HR5.out) (by repeat first | (with_reducible first | exact HB.out | apply below_alloc | apply pw_below_drewN | apply below_drew1) | exact HB.out))); rintro e w14 ⟨v279, rfl, ho0, hb⟩; refine ⟨_, rfl, ?_⟩; have n0_ := Aside0.mk (Kd.V_lower (Kd.V_mono (ok' := fun k_ => True) ho0 (fun k_ hk_ => trivial)) (below_size (by repeat first | (with_reducible first | exact HB.out | apply below_alloc | apply pw_below_drewN | apply below_drew1) | exact HB.out))); have n1_ := Aside0.mk (below_step (by repeat first | (with_reducible first | exact HB.out | apply below_alloc | apply pw_below_drewN | apply below_drew1) | exact HB.out) hb); clear HB; have HO280 := n0_; have HB := n1_; clear n0_ n1_; (try clear hb); (try clear hb2); (try clear hk); (try clear hi); (try clear ho0); obtain ⟨Ao15, co15, eo15⟩ := Kd.V_slice HO280.out; subst eo15) | ((with_reducible refine gate_callee (f := 34) rfl ?_); refine goesL_ (some 39) rfl rfl Try.func34 (by kernel_rfl) rfl #[.int .u32 a0, .int .u32 a1, .int .u16 a2, .int .u16 a3, .int .u8 a4, .slice Ao15 t278.length co15] rfl (by (try simp only [List.map_toArray, List.map_cons, List.map_nil]); first | done | rfl) ?_; (with_reducible refine (tcp_Build.strong k a0 a1 a2 a3 a4 (fun k_ => True) _ _ t278 t281 t284 _ ?side1 A9.out).mono ?_); (case side1 => exact HO280.out); rintro e w16 ⟨v282, rfl, ho0, hb⟩; refine ⟨_, rfl, ?_⟩; have n0_ := Aside0.mk (Kd.V_elder' (by (with_reducible repeat (first | apply Kd.V_alloc | apply Kd.V_drewN | apply Kd.V_drew)); exact HO280.out) (Kd.K_base ho0) hb); have n1_ := Aside0.mk (Kd.K_lower (Kd.K_mono (ok' := fun k_ => True) ho0 (fun _ hk_ => trivial)) (below_size (by repeat first | (with_reducible first | exact HB.out | apply below_alloc | apply pw_below_drewN | apply below_drew1) | exact HB.out))); have n2_ := Aside0.mk (below_step (by repeat first | (with_reducible first | exact HB.out | apply below_alloc | apply pw_below_drewN | apply below_drew1) | exact HB.out) hb); clear HO280; clear HB; have HO280 := n0_; have HO283 := n1_; have HB := n2_; clear n0_ n1_ n2_; (try clear hb); (try clear hb2); (try clear hk); (try clear hi); (try clear ho0); obtain ⟨Ao17, co17, eo17⟩ := Kd.K_slice HO283.out; subst eo17) | ((with_reducible refine gate_callee (f := 30) rfl ?_); refine goesL_ (some 67) rfl rfl Try.func30 (by kernel_rfl) rfl #[.int .u32 a0, .int .u32 a1, .slice Ao17 t281.length co17] rfl (by (try simp only [List.map_toArray, List.map_cons, List.map_nil]); first | done | rfl) ?_; (with_reducible refine (tcp_Parse.calls k a0 a1 _ _ t281 t286 t287 t288 t289 _ ?side1 ?side2 A11.out).mono ?_); (case side1 => repeat (first | exact (Kd.K_reads' HO283.out).2.2 | (with_reducible refine Kd.C_alloc ?_ _) | (with_reducible refine Kd.C_drewN ?_ _) | (with_reducible refine Kd.C_drew ?_))); (case side2 => exact (Kd.K_reads' HO283.out).2.1); rintro e w18 ⟨rfl, hb⟩; refine ⟨_, rfl, ?_⟩; have n0_ := Aside0.mk (Kd.V_below (by (with_reducible repeat (first | apply Kd.V_alloc | apply Kd.V_drewN | apply Kd.V_drew)); exact HO280.out) hb); have n1_ := Aside0.mk (Kd.K_below (by (with_reducible repeat (first | apply Kd.K_alloc | apply Kd.K_drewN | apply Kd.K_drew)); exact HO283.out) hb); have n2_ := Aside0.mk (below_step (by repeat first | (with_reducible first | exact HB.out | apply below_alloc | apply pw_below_drewN | apply below_drew1) | exact HB.out) hb); clear HO280; clear HO283; clear HB; have HO280 := n0_; have HO283 := n1_; have HB := n2_; clear n0_ n1_ n2_; (try clear hb); (try clear hb2); (try clear hk); (try clear hi)) | ((with_reducible refine gate_callee (f := 30) rfl ?_); refine goesL_ (some 76) rfl rfl Try.func30 (by kernel_rfl) rfl #[.int .u32 a1, .int .u32 a0, .slice Ao17 t281.length co17] rfl (by (try simp only [List.map_toArray, List.map_cons, List.map_nil]); first | done | rfl) ?_; (with_reducible refine (tcp_Parse.calls k a1 a0 _ _ t281 t290 t291 t292 t293 _ ?side1 ?side2 A12.out).mono ?_); (case side1 => repeat (first | exact (Kd.K_reads' HO283.out).2.2 | (with_reducible refine Kd.C_alloc ?_ _) | (with_reducible refine Kd.C_drewN ?_ _) | (with_reducible refine Kd.C_drew ?_))); (case side2 => exact (Kd.K_reads' HO283.out).2.1); rintro e w19 ⟨rfl, hb⟩; refine ⟨_, rfl, ?_⟩; have n0_ := Aside0.mk (Kd.V_below (by (with_reducible repeat (first | apply Kd.V_alloc | apply Kd.V_drewN | apply Kd.V_drew)); exact HO280.out) hb); have n1_ := Aside0.mk (Kd.K_below (by (with_reducible repeat (first | apply Kd.K_alloc | apply Kd.K_drewN | apply Kd.K_drew)); exact HO283.out) hb); have n2_ := Aside0.mk (below_step (by repeat first | (with_reducible first | exact HB.out | apply below_alloc | apply pw_below_drewN | apply below_drew1) | exact HB.out) hb); clear HO280; clear HO283; clear HB; have HO280 := n0_; have HO283 := n1_; have HB := n2_; clear n0_ n1_ n2_; (try clear hb); (try clear hb2); (try clear hk); (try clear hi)))
    (try simp only [Act.put, List.setIfInBounds_toArray, List.set_cons_zero, List.set_cons_succ])
    go_cut [119] (fun v119 wc => ∃ (kq : Nat) (x119_12 : Bool), v119 = .bool x119_12 ∧ Aside0 (mantletlaw05_TcpBack.j0 kq a0 a1 a6 t281 x119_12 = some r) ∧ Aside0 (kq ≤ k) ∧ Aside0 (Kd.K (Kd.int .u8) 5 wc w.heap.size (fun _ => True) (.slice Ao17 t281.length co17) t281) ∧ Aside0 (Below w.heap.size w wc))
    case first =>
      have H := HC13.out
      clear HC13
      by_cases c20 : t289 = 0
      · rw [if_pos c20] at H
        have c20b0 : (t289 == 0) = true := beq_iff_eq.mpr c20
        have c20b1 : (t289 != 0) = false := bne_eq_false_iff_eq.mpr c20
        clear c20
        (first | rw [c20b0] | (simp only [i64_w, i32_w]; rw [c20b0]) | skip)
        by_cases c21 : t286 = a2
        · rw [if_pos c21] at H
          have c21b0 : (t286 == a2) = true := beq_iff_eq.mpr c21
          have c21b1 : (t286 != a2) = false := bne_eq_false_iff_eq.mpr c21
          clear c21
          by_cases c22 : t287 = a3
          · rw [if_pos c22] at H
            have c22b0 : (t287 == a3) = true := beq_iff_eq.mpr c22
            have c22b1 : (t287 != a3) = false := bne_eq_false_iff_eq.mpr c22
            clear c22
            by_cases c23 : t288 = a4
            · rw [if_pos c23] at H
              have c23b0 : (t288 == a4) = true := beq_iff_eq.mpr c23
              have c23b1 : (t288 != a4) = false := bne_eq_false_iff_eq.mpr c23
              clear c23
              by_cases c24 : t293 = 0
              · rw [if_pos c24] at H
                have c24b0 : (t293 == 0) = true := beq_iff_eq.mpr c24
                have c24b1 : (t293 != 0) = false := bne_eq_false_iff_eq.mpr c24
                clear c24
                by_cases c25 : t290 = a2
                · rw [if_pos c25] at H
                  have c25b0 : (t290 == a2) = true := beq_iff_eq.mpr c25
                  have c25b1 : (t290 != a2) = false := bne_eq_false_iff_eq.mpr c25
                  clear c25
                  by_cases c26 : t291 = a3
                  · rw [if_pos c26] at H
                    have c26b0 : (t291 == a3) = true := beq_iff_eq.mpr c26
                    have c26b1 : (t291 != a3) = false := bne_eq_false_iff_eq.mpr c26
                    clear c26
                    have H' := Aside0.mk H
                    clear H
                    go_wp2
                    go_meet
                    case rel => exact ⟨_, (((t281.length : Int) != (wrap64 (20 + (t278.length : Int))))), (by first | rfl | (simp; done) | (simp [*]; done)), H', ⟨by first | omega | exact Nat.le_refl _⟩, ⟨by (with_reducible repeat (first | apply Kd.K_alloc | apply Kd.K_drewN | apply Kd.K_drew)); exact HO283.out⟩, ⟨by repeat first | (with_reducible first | exact HB.out | apply below_alloc | apply pw_below_drewN | apply below_drew1) | exact HB.out⟩⟩
                  · rw [if_neg c26] at H
                    have c26b0 : (t291 == a3) = false := beq_eq_false_iff_ne.mpr c26
                    have c26b1 : (t291 != a3) = true := bne_iff_ne.mpr c26
                    have H' := Aside0.mk H
                    clear H
                    go_wp2
                    go_meet
                    case rel => exact ⟨_, (true), (by first | rfl | (simp; done) | (simp [*]; done)), H', ⟨by first | omega | exact Nat.le_refl _⟩, ⟨by (with_reducible repeat (first | apply Kd.K_alloc | apply Kd.K_drewN | apply Kd.K_drew)); exact HO283.out⟩, ⟨by repeat first | (with_reducible first | exact HB.out | apply below_alloc | apply pw_below_drewN | apply below_drew1) | exact HB.out⟩⟩
                · rw [if_neg c25] at H
                  have c25b0 : (t290 == a2) = false := beq_eq_false_iff_ne.mpr c25
                  have c25b1 : (t290 != a2) = true := bne_iff_ne.mpr c25
                  have H' := Aside0.mk H
                  clear H
                  go_wp2
                  go_meet
                  case rel => exact ⟨_, (true), (by first | rfl | (simp; done) | (simp [*]; done)), H', ⟨by first | omega | exact Nat.le_refl _⟩, ⟨by (with_reducible repeat (first | apply Kd.K_alloc | apply Kd.K_drewN | apply Kd.K_drew)); exact HO283.out⟩, ⟨by repeat first | (with_reducible first | exact HB.out | apply below_alloc | apply pw_below_drewN | apply below_drew1) | exact HB.out⟩⟩
              · rw [if_neg c24] at H
                have c24b0 : (t293 == 0) = false := beq_eq_false_iff_ne.mpr c24
                have c24b1 : (t293 != 0) = true := bne_iff_ne.mpr c24
                have H' := Aside0.mk H
                clear H
                go_wp2
                go_meet
                case rel => exact ⟨_, (true), (by first | rfl | (simp; done) | (simp [*]; done)), H', ⟨by first | omega | exact Nat.le_refl _⟩, ⟨by (with_reducible repeat (first | apply Kd.K_alloc | apply Kd.K_drewN | apply Kd.K_drew)); exact HO283.out⟩, ⟨by repeat first | (with_reducible first | exact HB.out | apply below_alloc | apply pw_below_drewN | apply below_drew1) | exact HB.out⟩⟩
            · rw [if_neg c23] at H
              have c23b0 : (t288 == a4) = false := beq_eq_false_iff_ne.mpr c23
              have c23b1 : (t288 != a4) = true := bne_iff_ne.mpr c23
              have H' := Aside0.mk H
              clear H
              go_wp2
              go_meet
              case rel => exact ⟨_, (true), (by first | rfl | (simp; done) | (simp [*]; done)), H', ⟨by first | omega | exact Nat.le_refl _⟩, ⟨by (with_reducible repeat (first | apply Kd.K_alloc | apply Kd.K_drewN | apply Kd.K_drew)); exact HO283.out⟩, ⟨by repeat first | (with_reducible first | exact HB.out | apply below_alloc | apply pw_below_drewN | apply below_drew1) | exact HB.out⟩⟩
          · rw [if_neg c22] at H
            have c22b0 : (t287 == a3) = false := beq_eq_false_iff_ne.mpr c22
            have c22b1 : (t287 != a3) = true := bne_iff_ne.mpr c22
            have H' := Aside0.mk H
            clear H
            go_wp2
            go_meet
            case rel => exact ⟨_, (true), (by first | rfl | (simp; done) | (simp [*]; done)), H', ⟨by first | omega | exact Nat.le_refl _⟩, ⟨by (with_reducible repeat (first | apply Kd.K_alloc | apply Kd.K_drewN | apply Kd.K_drew)); exact HO283.out⟩, ⟨by repeat first | (with_reducible first | exact HB.out | apply below_alloc | apply pw_below_drewN | apply below_drew1) | exact HB.out⟩⟩
        · rw [if_neg c21] at H
          have c21b0 : (t286 == a2) = false := beq_eq_false_iff_ne.mpr c21
          have c21b1 : (t286 != a2) = true := bne_iff_ne.mpr c21
          have H' := Aside0.mk H
          clear H
          go_wp2
          go_meet
          case rel => exact ⟨_, (true), (by first | rfl | (simp; done) | (simp [*]; done)), H', ⟨by first | omega | exact Nat.le_refl _⟩, ⟨by (with_reducible repeat (first | apply Kd.K_alloc | apply Kd.K_drewN | apply Kd.K_drew)); exact HO283.out⟩, ⟨by repeat first | (with_reducible first | exact HB.out | apply below_alloc | apply pw_below_drewN | apply below_drew1) | exact HB.out⟩⟩
      · rw [if_neg c20] at H
        have c20b0 : (t289 == 0) = false := beq_eq_false_iff_ne.mpr c20
        have c20b1 : (t289 != 0) = true := bne_iff_ne.mpr c20
        (first | rw [c20b0] | (simp only [i64_w, i32_w]; rw [c20b0]) | skip)
        have H' := Aside0.mk H
        clear H
        go_wp2
        go_meet
        case rel => exact ⟨_, (true), (by first | rfl | (simp; done) | (simp [*]; done)), H', ⟨by first | omega | exact Nat.le_refl _⟩, ⟨by (with_reducible repeat (first | apply Kd.K_alloc | apply Kd.K_drewN | apply Kd.K_drew)); exact HO283.out⟩, ⟨by repeat first | (with_reducible first | exact HB.out | apply below_alloc | apply pw_below_drewN | apply below_drew1) | exact HB.out⟩⟩
    case rest =>
      clear HC13
      try clear c1
      try clear c2
      try clear p2
      try clear c3
      try clear c5
      try clear p6
      try clear c8
      try clear c10
      try clear c10b0
      try clear c10b1
      try clear c20
      try clear c20b0
      try clear c20b1
      try clear c21
      try clear c21b0
      try clear c21b1
      try clear c22
      try clear c22b0
      try clear c22b1
      try clear c23
      try clear c23b0
      try clear c23b1
      try clear c24
      try clear c24b0
      try clear c24b1
      try clear c25
      try clear c25b0
      try clear c25b1
      try clear c26
      try clear c26b0
      try clear c26b1
      obtain ⟨kq, x119_12, rfl, HA, HJ12, HO_16, HB⟩ := hcut
      cases kq with
      | zero => exact absurd HA.out (by simp [mantletlaw05_TcpBack.j0])
      | succ kj12 =>
        have H := HA.out
        clear HA
        simp only [mantletlaw05_TcpBack.j0] at H
        by_cases c27 : x119_12 = true
        · subst c27
          have H1 : (some false) = some r := by rw [if_pos rfl] at H; exact H
          clear H
          have H := H1
          clear H1
          obtain rfl := Option.some.inj H
          go_wp2
          go_ret
          exact ⟨by first | rfl | (simp [errW_none, errW_some] <;> rfl) | (simp [*, errW_none, errW_some] <;> rfl), by repeat first | (with_reducible first | exact HB.out | apply below_alloc | apply pw_below_drewN | apply below_drew1) | exact HB.out⟩
        · replace c27 := Bool.eq_false_iff.mpr c27
          subst c27
          have H1 : (if (t281.length : Int) = 0 then (none) else (if 0 ≤ (Int.tmod (wrap64 (Int.tdiv (wrap64 (a6)) 8)) (t281.length : Int)) then (if (Int.tmod (wrap64 (Int.tdiv (wrap64 (a6)) 8)) (t281.length : Int)) < (t281.length : Int) then (if 0 ≤ (Int.tmod a6 8) then ((tcp_Parse.f kj12 a0 a1 (t281.set ((Int.tmod (wrap64 (Int.tdiv (wrap64 (a6)) 8)) (t281.length : Int)) : Int).toNat (Go.bits .xor .u8 (rd t281 (Int.tmod (wrap64 (Int.tdiv (wrap64 (a6)) 8)) (t281.length : Int))) (shl .u8 1 (Int.tmod a6 8))))).bind fun bt296 => ((mantletlaw05_awake.f kj12).bind fun t300 => (if t300 = true then (if bt296.2.2.2 = 7 then (some true) else (if bt296.2.2.2 = 6 then (some true) else (some (bt296.2.2.2 == 4)))) else (some false)))) else (none)) else (none)) else (none))) = some r := by rw [if_neg (show ¬ (false = true) by decide)] at H; exact H
          clear H
          have H := H1
          clear H1
          by_cases c28 : (t281.length : Int) = 0
          · rw [if_pos c28] at H
            exact absurd H (by simp)
          · rw [if_neg c28] at H
            have c28b0 : ((t281.length : Int) == 0) = false := beq_eq_false_iff_ne.mpr c28
            have c28b1 : ((t281.length : Int) != 0) = true := bne_iff_ne.mpr c28
            have c28b2 : ¬ (t281 = []) := fun h_ => c28 (by rw [h_]; rfl)
            obtain ⟨ji29, hji29⟩ : ∃ j_ : Int, (Int.tmod (wrap64 (Int.tdiv (wrap64 (a6)) 8)) (t281.length : Int)) = j_ := ⟨_, rfl⟩
            replace H : (if 0 ≤ (ji29) then (if (ji29) < (t281.length : Int) then (if 0 ≤ (Int.tmod a6 8) then ((tcp_Parse.f kj12 a0 a1 (t281.set ((ji29) : Int).toNat (Go.bits .xor .u8 (rd t281 (ji29)) (shl .u8 1 (Int.tmod a6 8))))).bind fun bt296 => ((mantletlaw05_awake.f kj12).bind fun t300 => (if t300 = true then (if bt296.2.2.2 = 7 then (some true) else (if bt296.2.2.2 = 6 then (some true) else (some (bt296.2.2.2 == 4)))) else (some false)))) else (none)) else (none)) else (none)) = some r := by first | (rw [hji29] at H; exact H) | (simp only [hji29] at H ⊢; exact H)
            by_cases c30 : 0 ≤ (ji29)
            · rw [if_pos c30] at H
              have c30b0 : decide (0 ≤ (ji29)) = true := decide_eq_true c30
              clear c30
              by_cases c31 : (ji29) < (t281.length : Int)
              · rw [if_pos c31] at H
                have c31b0 : decide ((ji29) < (t281.length : Int)) = true := decide_eq_true c31
                clear c31
                obtain ⟨ji32, hji32⟩ : ∃ j_ : Int, (Int.tmod a6 8) = j_ := ⟨_, rfl⟩
                replace H : (if 0 ≤ (ji32) then ((tcp_Parse.f kj12 a0 a1 (t281.set ((ji29) : Int).toNat (Go.bits .xor .u8 (rd t281 (ji29)) (shl .u8 1 (ji32))))).bind fun bt296 => ((mantletlaw05_awake.f kj12).bind fun t300 => (if t300 = true then (if bt296.2.2.2 = 7 then (some true) else (if bt296.2.2.2 = 6 then (some true) else (some (bt296.2.2.2 == 4)))) else (some false)))) else (none)) = some r := by first | (rw [hji32] at H; exact H) | (simp only [hji32] at H ⊢; exact H)
                by_cases c33 : 0 ≤ (ji32)
                · rw [if_pos c33] at H
                  have c33b0 := eq_true c33
                  have c33b1 : decide (0 ≤ (ji32)) = true := decide_eq_true c33
                  clear c33
                  obtain ⟨ji34, hji34⟩ : ∃ j_ : Int, (shl .u8 1 (ji32)) = j_ := ⟨_, rfl⟩
                  replace H : ((tcp_Parse.f kj12 a0 a1 (t281.set ((ji29) : Int).toNat (Go.bits .xor .u8 (rd t281 (ji29)) (ji34)))).bind fun bt296 => ((mantletlaw05_awake.f kj12).bind fun t300 => (if t300 = true then (if bt296.2.2.2 = 7 then (some true) else (if bt296.2.2.2 = 6 then (some true) else (some (bt296.2.2.2 == 4)))) else (some false)))) = some r := by first | (rw [hji34] at H; exact H) | (simp only [hji34] at H ⊢; exact H)
                  have hji34_ : (IntKind.u8.wrap (1 * 2 ^ min (ji32).toNat 8)) = ji34 := hji34
                  have hji34z : (ji32) ≤ 8 → (IntKind.u8.wrap (1 * 2 ^ (ji32).toNat)) = ji34 := shl_small hji34
                  have hji34u : (IntKind.u8.wrap (2 ^ min (ji32).toNat 8)) = ji34 := by have h_ := hji34_; rw [Int.one_mul] at h_; exact h_
                  have hji34v : (ji32) ≤ 8 → (IntKind.u8.wrap (2 ^ (ji32).toNat)) = ji34 := fun hle_ => by have h_ := hji34z hle_; rw [Int.one_mul] at h_; exact h_
                  obtain ⟨y295, hy295⟩ : ∃ y_ : List Int, y_ = (t281.set ((ji29) : Int).toNat (Go.bits .xor .u8 (rd t281 (ji29)) (ji34))) := ⟨_, rfl⟩
                  replace H : ((tcp_Parse.f kj12 a0 a1 y295).bind fun bt296 => ((mantletlaw05_awake.f kj12).bind fun t300 => (if t300 = true then (if bt296.2.2.2 = 7 then (some true) else (if bt296.2.2.2 = 6 then (some true) else (some (bt296.2.2.2 == 4)))) else (some false)))) = some r := by first | (rw [hy295]; with_reducible exact H) | (have H2_ := (Option.bind_some _ _).symm.trans H; rw [hy295]; with_reducible exact H2_) | (have H2_ := (Option.bind_some _ _).symm.trans H; with_reducible exact H2_) | with_reducible exact H | (rw [hy295]; exact H) | exact H
                  have Ny295 := Aside0.mk hy295
                  clear hy295
                  replace H := Option.bind_eq_some_iff.mp H
                  obtain ⟨⟨t296, t297, t298, t299⟩, A360, H⟩ := H
                  replace H : ((mantletlaw05_awake.f kj12).bind fun t300 => (if t300 = true then (if t299 = 7 then (some true) else (if t299 = 6 then (some true) else (some (t299 == 4)))) else (some false))) = some r := H
                  have A36 := Aside0.mk A360
                  clear A360
                  replace H := Option.bind_eq_some_iff.mp H
                  obtain ⟨t300, A370, H⟩ := H
                  replace H : (if t300 = true then (if t299 = 7 then (some true) else (if t299 = 6 then (some true) else (some (t299 == 4)))) else (some false)) = some r := H
                  have A37 := Aside0.mk A370
                  clear A370
                  by_cases c38 : t300 = true
                  · subst c38
                    have H1 : (if t299 = 7 then (some true) else (if t299 = 6 then (some true) else (some (t299 == 4)))) = some r := by rw [if_pos rfl] at H; exact H
                    clear H
                    have H := H1
                    clear H1
                    by_cases c39 : t299 = 7
                    · rw [if_pos c39] at H
                      have c39b0 : (t299 == 7) = true := beq_iff_eq.mpr c39
                      have c39b1 : (t299 != 7) = false := bne_eq_false_iff_eq.mpr c39
                      clear c39
                      obtain rfl := Option.some.inj H
                      have p294 : 0 ≤ ((ji29) : Int) := of_decide_eq_true (by first | (with_reducible assumption) | assumption)
                      have q294 : (ji29) < (t281.length : Int) := of_decide_eq_true (by first | (with_reducible assumption) | assumption)
                      obtain ⟨ad294, e294, hx294_0⟩ := Kd.at_int (Kd.K_reads' HO_16.out).2.2 (ji29) p294 q294
                      cases e294
                      replace p294 := eq_true p294
                      replace q294 := eq_true q294
                      have p35 : 0 ≤ ((ji29) : Int) := of_decide_eq_true (by first | (with_reducible assumption) | assumption)
                      have q35 : ((ji29) : Int) < ((t281.length : Int) : Int) := of_decide_eq_true (by first | (with_reducible assumption) | assumption)
                      obtain ⟨go35, co35, eo35, gb35, gl35, cl35, HG35⟩ := Kd.K_form HO_16.out (by omega)
                      (first | cases eo35 | (injection eo35 with ea_ en_ ec_; (first | subst ea_ | (injection ea_ with ea_; subst ea_)); subst ec_; clear en_))
                      have GB35 := Aside0.mk gb35
                      have GG35 := Aside0.mk HG35
                      clear gb35 gl35 HG35
                      (first | simp only [add_plain] at hx294_0 | skip)
                      obtain ⟨hx35_0, hf35_0⟩ := Kd.K_celln 0 HO_16.out ((ji29) : Int) p35 q35
                      replace p35 := eq_true p35
                      replace q35 := eq_true q35
                      have HP40 := Kd.K_putg HO_16.out ((ji29) : Int) (Go.bits .xor .u8 (rd t281 (ji29)) (ji34))
                      go_wp2_with (first | ((with_reducible refine gate_store (t := 5) (p := 133) rfl ?_); refine store_event (t := 5) (p := 133) (v := ?vo_w41) (w1 := (wc.setCell ⟨go35, ((ji29) : Int).toNat, none⟩ (.int .u8 (Go.bits .xor .u8 (rd t281 (ji29)) (ji34))))) ?hg ?ho ?hn ?hr ?_; (case ho => rfl); (case hg => rfl); (case hn => rfl); (case hr => first | (go_simp; done) | (go_simp; rfl)); intro w41 hw; have hg : wc.grownBy w41 (some go35) := (by rw [hw]; exact HP40.2); have hp_ : Kd.K (Kd.int .u8) 5 w41 w.heap.size (fun _ => True) (.slice (some ⟨go35, 0, none⟩) t281.length co17) y295 := (by rw [hw, Ny295.out]; exact HP40.1); clear HP40; have n0_ := Aside0.mk (hp_); have n1_ := Aside0.mk ((by rw [hw]; exact below_set (HB.out) GB35.out : Below w.heap.size w w41)); clear HO_16; clear HB; have HO_16 := n0_; have HB := n1_; clear n0_ n1_; clear hg hw hp_) | ((with_reducible refine gate_callee (f := 30) rfl ?_); refine goesL_ (some 138) rfl rfl Try.func30 (by kernel_rfl) rfl #[.int .u32 a0, .int .u32 a1, .slice (some ⟨go35, 0, none⟩) y295.length co17] rfl (by (try simp only [List.map_toArray, List.map_cons, List.map_nil]); first | done | (rw [show y295.length = t281.length from (Kd.K_reads' HO_16.out).1.symm] <;> rfl) | rfl | (simp only [List.length_drop, List.length_take]; rfl)) ?_; (with_reducible refine (tcp_Parse.calls kj12 a0 a1 _ _ y295 t296 t297 t298 t299 _ ?side1 ?side2 A36.out).mono ?_); (case side1 => repeat (first | exact (Kd.K_reads' HO_16.out).2.2 | (with_reducible refine Kd.C_alloc ?_ _) | (with_reducible refine Kd.C_drewN ?_ _) | (with_reducible refine Kd.C_drew ?_))); (case side2 => rw [show y295.length = t281.length from (Kd.K_reads' HO_16.out).1.symm]; exact (Kd.K_reads' HO_16.out).2.1); rintro e w42 ⟨rfl, hb⟩; refine ⟨_, rfl, ?_⟩; have n0_ := Aside0.mk (Kd.K_below (by (with_reducible repeat (first | apply Kd.K_alloc | apply Kd.K_drewN | apply Kd.K_drew)); exact HO_16.out) hb); have n1_ := Aside0.mk (below_step (by repeat first | (with_reducible first | exact HB.out | apply below_alloc | apply pw_below_drewN | apply below_drew1) | exact HB.out) hb); clear HO_16; clear HB; have HO_16 := n0_; have HB := n1_; clear n0_ n1_; (try clear hb); (try clear hb2); (try clear hk); (try clear hi)) | ((with_reducible refine gate_callee (f := 33) rfl ?_); refine goesL_ (some 143) rfl rfl Try.func33 (by kernel_rfl) rfl #[] rfl (by (try simp only [List.map_toArray, List.map_cons, List.map_nil]); first | done | rfl) ?_; (with_reducible refine (mantletlaw05_awake.calls kj12  true _ A37.out).mono ?_); rintro e w43 ⟨rfl, hb⟩; refine ⟨_, rfl, ?_⟩; have n0_ := Aside0.mk (Kd.K_below (by (with_reducible repeat (first | apply Kd.K_alloc | apply Kd.K_drewN | apply Kd.K_drew)); exact HO_16.out) hb); have n1_ := Aside0.mk (below_step (by repeat first | (with_reducible first | exact HB.out | apply below_alloc | apply pw_below_drewN | apply below_drew1) | exact HB.out) hb); clear HO_16; clear HB; have HO_16 := n0_; have HB := n1_; clear n0_ n1_; (try clear hb); (try clear hb2); (try clear hk); (try clear hi)))
                      go_ret
                      exact ⟨by first | rfl | (simp [errW_none, errW_some] <;> rfl) | (simp only [← hji29, ← hji32, ← hji34]; first | rfl | (simp [errW_none, errW_some] <;> rfl)) | (simp [*, errW_none, errW_some] <;> rfl), by repeat first | (with_reducible first | exact HB.out | apply below_alloc | apply pw_below_drewN | apply below_drew1) | exact HB.out⟩
                    · rw [if_neg c39] at H
                      have c39b0 : (t299 == 7) = false := beq_eq_false_iff_ne.mpr c39
                      have c39b1 : (t299 != 7) = true := bne_iff_ne.mpr c39
                      by_cases c44 : t299 = 6
                      · rw [if_pos c44] at H
                        have c44b0 : (t299 == 6) = true := beq_iff_eq.mpr c44
                        have c44b1 : (t299 != 6) = false := bne_eq_false_iff_eq.mpr c44
                        clear c44
                        obtain rfl := Option.some.inj H
                        have p294 : 0 ≤ ((ji29) : Int) := of_decide_eq_true (by first | (with_reducible assumption) | assumption)
                        have q294 : (ji29) < (t281.length : Int) := of_decide_eq_true (by first | (with_reducible assumption) | assumption)
                        obtain ⟨ad294, e294, hx294_0⟩ := Kd.at_int (Kd.K_reads' HO_16.out).2.2 (ji29) p294 q294
                        cases e294
                        replace p294 := eq_true p294
                        replace q294 := eq_true q294
                        have p35 : 0 ≤ ((ji29) : Int) := of_decide_eq_true (by first | (with_reducible assumption) | assumption)
                        have q35 : ((ji29) : Int) < ((t281.length : Int) : Int) := of_decide_eq_true (by first | (with_reducible assumption) | assumption)
                        obtain ⟨go35, co35, eo35, gb35, gl35, cl35, HG35⟩ := Kd.K_form HO_16.out (by omega)
                        (first | cases eo35 | (injection eo35 with ea_ en_ ec_; (first | subst ea_ | (injection ea_ with ea_; subst ea_)); subst ec_; clear en_))
                        have GB35 := Aside0.mk gb35
                        have GG35 := Aside0.mk HG35
                        clear gb35 gl35 HG35
                        (first | simp only [add_plain] at hx294_0 | skip)
                        obtain ⟨hx35_0, hf35_0⟩ := Kd.K_celln 0 HO_16.out ((ji29) : Int) p35 q35
                        replace p35 := eq_true p35
                        replace q35 := eq_true q35
                        have HP45 := Kd.K_putg HO_16.out ((ji29) : Int) (Go.bits .xor .u8 (rd t281 (ji29)) (ji34))
                        go_wp2_with (first | ((with_reducible refine gate_store (t := 5) (p := 133) rfl ?_); refine store_event (t := 5) (p := 133) (v := ?vo_w46) (w1 := (wc.setCell ⟨go35, ((ji29) : Int).toNat, none⟩ (.int .u8 (Go.bits .xor .u8 (rd t281 (ji29)) (ji34))))) ?hg ?ho ?hn ?hr ?_; (case ho => rfl); (case hg => rfl); (case hn => rfl); (case hr => first | (go_simp; done) | (go_simp; rfl)); intro w46 hw; have hg : wc.grownBy w46 (some go35) := (by rw [hw]; exact HP45.2); have hp_ : Kd.K (Kd.int .u8) 5 w46 w.heap.size (fun _ => True) (.slice (some ⟨go35, 0, none⟩) t281.length co17) y295 := (by rw [hw, Ny295.out]; exact HP45.1); clear HP45; have n0_ := Aside0.mk (hp_); have n1_ := Aside0.mk ((by rw [hw]; exact below_set (HB.out) GB35.out : Below w.heap.size w w46)); clear HO_16; clear HB; have HO_16 := n0_; have HB := n1_; clear n0_ n1_; clear hg hw hp_) | ((with_reducible refine gate_callee (f := 30) rfl ?_); refine goesL_ (some 138) rfl rfl Try.func30 (by kernel_rfl) rfl #[.int .u32 a0, .int .u32 a1, .slice (some ⟨go35, 0, none⟩) y295.length co17] rfl (by (try simp only [List.map_toArray, List.map_cons, List.map_nil]); first | done | (rw [show y295.length = t281.length from (Kd.K_reads' HO_16.out).1.symm] <;> rfl) | rfl | (simp only [List.length_drop, List.length_take]; rfl)) ?_; (with_reducible refine (tcp_Parse.calls kj12 a0 a1 _ _ y295 t296 t297 t298 t299 _ ?side1 ?side2 A36.out).mono ?_); (case side1 => repeat (first | exact (Kd.K_reads' HO_16.out).2.2 | (with_reducible refine Kd.C_alloc ?_ _) | (with_reducible refine Kd.C_drewN ?_ _) | (with_reducible refine Kd.C_drew ?_))); (case side2 => rw [show y295.length = t281.length from (Kd.K_reads' HO_16.out).1.symm]; exact (Kd.K_reads' HO_16.out).2.1); rintro e w47 ⟨rfl, hb⟩; refine ⟨_, rfl, ?_⟩; have n0_ := Aside0.mk (Kd.K_below (by (with_reducible repeat (first | apply Kd.K_alloc | apply Kd.K_drewN | apply Kd.K_drew)); exact HO_16.out) hb); have n1_ := Aside0.mk (below_step (by repeat first | (with_reducible first | exact HB.out | apply below_alloc | apply pw_below_drewN | apply below_drew1) | exact HB.out) hb); clear HO_16; clear HB; have HO_16 := n0_; have HB := n1_; clear n0_ n1_; (try clear hb); (try clear hb2); (try clear hk); (try clear hi)) | ((with_reducible refine gate_callee (f := 33) rfl ?_); refine goesL_ (some 143) rfl rfl Try.func33 (by kernel_rfl) rfl #[] rfl (by (try simp only [List.map_toArray, List.map_cons, List.map_nil]); first | done | rfl) ?_; (with_reducible refine (mantletlaw05_awake.calls kj12  true _ A37.out).mono ?_); rintro e w48 ⟨rfl, hb⟩; refine ⟨_, rfl, ?_⟩; have n0_ := Aside0.mk (Kd.K_below (by (with_reducible repeat (first | apply Kd.K_alloc | apply Kd.K_drewN | apply Kd.K_drew)); exact HO_16.out) hb); have n1_ := Aside0.mk (below_step (by repeat first | (with_reducible first | exact HB.out | apply below_alloc | apply pw_below_drewN | apply below_drew1) | exact HB.out) hb); clear HO_16; clear HB; have HO_16 := n0_; have HB := n1_; clear n0_ n1_; (try clear hb); (try clear hb2); (try clear hk); (try clear hi)))
                        go_ret
                        exact ⟨by first | rfl | (simp [errW_none, errW_some] <;> rfl) | (simp only [← hji29, ← hji32, ← hji34]; first | rfl | (simp [errW_none, errW_some] <;> rfl)) | (simp [*, errW_none, errW_some] <;> rfl), by repeat first | (with_reducible first | exact HB.out | apply below_alloc | apply pw_below_drewN | apply below_drew1) | exact HB.out⟩
                      · rw [if_neg c44] at H
                        have c44b0 : (t299 == 6) = false := beq_eq_false_iff_ne.mpr c44
                        have c44b1 : (t299 != 6) = true := bne_iff_ne.mpr c44
                        obtain rfl := Option.some.inj H
                        have p294 : 0 ≤ ((ji29) : Int) := of_decide_eq_true (by first | (with_reducible assumption) | assumption)
                        have q294 : (ji29) < (t281.length : Int) := of_decide_eq_true (by first | (with_reducible assumption) | assumption)
                        obtain ⟨ad294, e294, hx294_0⟩ := Kd.at_int (Kd.K_reads' HO_16.out).2.2 (ji29) p294 q294
                        cases e294
                        replace p294 := eq_true p294
                        replace q294 := eq_true q294
                        have p35 : 0 ≤ ((ji29) : Int) := of_decide_eq_true (by first | (with_reducible assumption) | assumption)
                        have q35 : ((ji29) : Int) < ((t281.length : Int) : Int) := of_decide_eq_true (by first | (with_reducible assumption) | assumption)
                        obtain ⟨go35, co35, eo35, gb35, gl35, cl35, HG35⟩ := Kd.K_form HO_16.out (by omega)
                        (first | cases eo35 | (injection eo35 with ea_ en_ ec_; (first | subst ea_ | (injection ea_ with ea_; subst ea_)); subst ec_; clear en_))
                        have GB35 := Aside0.mk gb35
                        have GG35 := Aside0.mk HG35
                        clear gb35 gl35 HG35
                        (first | simp only [add_plain] at hx294_0 | skip)
                        obtain ⟨hx35_0, hf35_0⟩ := Kd.K_celln 0 HO_16.out ((ji29) : Int) p35 q35
                        replace p35 := eq_true p35
                        replace q35 := eq_true q35
                        have HP49 := Kd.K_putg HO_16.out ((ji29) : Int) (Go.bits .xor .u8 (rd t281 (ji29)) (ji34))
                        go_wp2_with (first | ((with_reducible refine gate_store (t := 5) (p := 133) rfl ?_); refine store_event (t := 5) (p := 133) (v := ?vo_w50) (w1 := (wc.setCell ⟨go35, ((ji29) : Int).toNat, none⟩ (.int .u8 (Go.bits .xor .u8 (rd t281 (ji29)) (ji34))))) ?hg ?ho ?hn ?hr ?_; (case ho => rfl); (case hg => rfl); (case hn => rfl); (case hr => first | (go_simp; done) | (go_simp; rfl)); intro w50 hw; have hg : wc.grownBy w50 (some go35) := (by rw [hw]; exact HP49.2); have hp_ : Kd.K (Kd.int .u8) 5 w50 w.heap.size (fun _ => True) (.slice (some ⟨go35, 0, none⟩) t281.length co17) y295 := (by rw [hw, Ny295.out]; exact HP49.1); clear HP49; have n0_ := Aside0.mk (hp_); have n1_ := Aside0.mk ((by rw [hw]; exact below_set (HB.out) GB35.out : Below w.heap.size w w50)); clear HO_16; clear HB; have HO_16 := n0_; have HB := n1_; clear n0_ n1_; clear hg hw hp_) | ((with_reducible refine gate_callee (f := 30) rfl ?_); refine goesL_ (some 138) rfl rfl Try.func30 (by kernel_rfl) rfl #[.int .u32 a0, .int .u32 a1, .slice (some ⟨go35, 0, none⟩) y295.length co17] rfl (by (try simp only [List.map_toArray, List.map_cons, List.map_nil]); first | done | (rw [show y295.length = t281.length from (Kd.K_reads' HO_16.out).1.symm] <;> rfl) | rfl | (simp only [List.length_drop, List.length_take]; rfl)) ?_; (with_reducible refine (tcp_Parse.calls kj12 a0 a1 _ _ y295 t296 t297 t298 t299 _ ?side1 ?side2 A36.out).mono ?_); (case side1 => repeat (first | exact (Kd.K_reads' HO_16.out).2.2 | (with_reducible refine Kd.C_alloc ?_ _) | (with_reducible refine Kd.C_drewN ?_ _) | (with_reducible refine Kd.C_drew ?_))); (case side2 => rw [show y295.length = t281.length from (Kd.K_reads' HO_16.out).1.symm]; exact (Kd.K_reads' HO_16.out).2.1); rintro e w51 ⟨rfl, hb⟩; refine ⟨_, rfl, ?_⟩; have n0_ := Aside0.mk (Kd.K_below (by (with_reducible repeat (first | apply Kd.K_alloc | apply Kd.K_drewN | apply Kd.K_drew)); exact HO_16.out) hb); have n1_ := Aside0.mk (below_step (by repeat first | (with_reducible first | exact HB.out | apply below_alloc | apply pw_below_drewN | apply below_drew1) | exact HB.out) hb); clear HO_16; clear HB; have HO_16 := n0_; have HB := n1_; clear n0_ n1_; (try clear hb); (try clear hb2); (try clear hk); (try clear hi)) | ((with_reducible refine gate_callee (f := 33) rfl ?_); refine goesL_ (some 143) rfl rfl Try.func33 (by kernel_rfl) rfl #[] rfl (by (try simp only [List.map_toArray, List.map_cons, List.map_nil]); first | done | rfl) ?_; (with_reducible refine (mantletlaw05_awake.calls kj12  true _ A37.out).mono ?_); rintro e w52 ⟨rfl, hb⟩; refine ⟨_, rfl, ?_⟩; have n0_ := Aside0.mk (Kd.K_below (by (with_reducible repeat (first | apply Kd.K_alloc | apply Kd.K_drewN | apply Kd.K_drew)); exact HO_16.out) hb); have n1_ := Aside0.mk (below_step (by repeat first | (with_reducible first | exact HB.out | apply below_alloc | apply pw_below_drewN | apply below_drew1) | exact HB.out) hb); clear HO_16; clear HB; have HO_16 := n0_; have HB := n1_; clear n0_ n1_; (try clear hb); (try clear hb2); (try clear hk); (try clear hi)))
                        go_ret
                        exact ⟨by first | rfl | (simp [errW_none, errW_some] <;> rfl) | (simp only [← hji29, ← hji32, ← hji34]; first | rfl | (simp [errW_none, errW_some] <;> rfl)) | (simp [*, errW_none, errW_some] <;> rfl), by repeat first | (with_reducible first | exact HB.out | apply below_alloc | apply pw_below_drewN | apply below_drew1) | exact HB.out⟩
                  · replace c38 := Bool.eq_false_iff.mpr c38
                    subst c38
                    have H1 : (some false) = some r := by rw [if_neg (show ¬ (false = true) by decide)] at H; exact H
                    clear H
                    have H := H1
                    clear H1
                    obtain rfl := Option.some.inj H
                    have p294 : 0 ≤ ((ji29) : Int) := of_decide_eq_true (by first | (with_reducible assumption) | assumption)
                    have q294 : (ji29) < (t281.length : Int) := of_decide_eq_true (by first | (with_reducible assumption) | assumption)
                    obtain ⟨ad294, e294, hx294_0⟩ := Kd.at_int (Kd.K_reads' HO_16.out).2.2 (ji29) p294 q294
                    cases e294
                    replace p294 := eq_true p294
                    replace q294 := eq_true q294
                    have p35 : 0 ≤ ((ji29) : Int) := of_decide_eq_true (by first | (with_reducible assumption) | assumption)
                    have q35 : ((ji29) : Int) < ((t281.length : Int) : Int) := of_decide_eq_true (by first | (with_reducible assumption) | assumption)
                    obtain ⟨go35, co35, eo35, gb35, gl35, cl35, HG35⟩ := Kd.K_form HO_16.out (by omega)
                    (first | cases eo35 | (injection eo35 with ea_ en_ ec_; (first | subst ea_ | (injection ea_ with ea_; subst ea_)); subst ec_; clear en_))
                    have GB35 := Aside0.mk gb35
                    have GG35 := Aside0.mk HG35
                    clear gb35 gl35 HG35
                    (first | simp only [add_plain] at hx294_0 | skip)
                    obtain ⟨hx35_0, hf35_0⟩ := Kd.K_celln 0 HO_16.out ((ji29) : Int) p35 q35
                    replace p35 := eq_true p35
                    replace q35 := eq_true q35
                    have HP53 := Kd.K_putg HO_16.out ((ji29) : Int) (Go.bits .xor .u8 (rd t281 (ji29)) (ji34))
                    go_wp2_with (first | ((with_reducible refine gate_store (t := 5) (p := 133) rfl ?_); refine store_event (t := 5) (p := 133) (v := ?vo_w54) (w1 := (wc.setCell ⟨go35, ((ji29) : Int).toNat, none⟩ (.int .u8 (Go.bits .xor .u8 (rd t281 (ji29)) (ji34))))) ?hg ?ho ?hn ?hr ?_; (case ho => rfl); (case hg => rfl); (case hn => rfl); (case hr => first | (go_simp; done) | (go_simp; rfl)); intro w54 hw; have hg : wc.grownBy w54 (some go35) := (by rw [hw]; exact HP53.2); have hp_ : Kd.K (Kd.int .u8) 5 w54 w.heap.size (fun _ => True) (.slice (some ⟨go35, 0, none⟩) t281.length co17) y295 := (by rw [hw, Ny295.out]; exact HP53.1); clear HP53; have n0_ := Aside0.mk (hp_); have n1_ := Aside0.mk ((by rw [hw]; exact below_set (HB.out) GB35.out : Below w.heap.size w w54)); clear HO_16; clear HB; have HO_16 := n0_; have HB := n1_; clear n0_ n1_; clear hg hw hp_) | ((with_reducible refine gate_callee (f := 30) rfl ?_); refine goesL_ (some 138) rfl rfl Try.func30 (by kernel_rfl) rfl #[.int .u32 a0, .int .u32 a1, .slice (some ⟨go35, 0, none⟩) y295.length co17] rfl (by (try simp only [List.map_toArray, List.map_cons, List.map_nil]); first | done | (rw [show y295.length = t281.length from (Kd.K_reads' HO_16.out).1.symm] <;> rfl) | rfl | (simp only [List.length_drop, List.length_take]; rfl)) ?_; (with_reducible refine (tcp_Parse.calls kj12 a0 a1 _ _ y295 t296 t297 t298 t299 _ ?side1 ?side2 A36.out).mono ?_); (case side1 => repeat (first | exact (Kd.K_reads' HO_16.out).2.2 | (with_reducible refine Kd.C_alloc ?_ _) | (with_reducible refine Kd.C_drewN ?_ _) | (with_reducible refine Kd.C_drew ?_))); (case side2 => rw [show y295.length = t281.length from (Kd.K_reads' HO_16.out).1.symm]; exact (Kd.K_reads' HO_16.out).2.1); rintro e w55 ⟨rfl, hb⟩; refine ⟨_, rfl, ?_⟩; have n0_ := Aside0.mk (Kd.K_below (by (with_reducible repeat (first | apply Kd.K_alloc | apply Kd.K_drewN | apply Kd.K_drew)); exact HO_16.out) hb); have n1_ := Aside0.mk (below_step (by repeat first | (with_reducible first | exact HB.out | apply below_alloc | apply pw_below_drewN | apply below_drew1) | exact HB.out) hb); clear HO_16; clear HB; have HO_16 := n0_; have HB := n1_; clear n0_ n1_; (try clear hb); (try clear hb2); (try clear hk); (try clear hi)) | ((with_reducible refine gate_callee (f := 33) rfl ?_); refine goesL_ (some 143) rfl rfl Try.func33 (by kernel_rfl) rfl #[] rfl (by (try simp only [List.map_toArray, List.map_cons, List.map_nil]); first | done | rfl) ?_; (with_reducible refine (mantletlaw05_awake.calls kj12  false _ A37.out).mono ?_); rintro e w56 ⟨rfl, hb⟩; refine ⟨_, rfl, ?_⟩; have n0_ := Aside0.mk (Kd.K_below (by (with_reducible repeat (first | apply Kd.K_alloc | apply Kd.K_drewN | apply Kd.K_drew)); exact HO_16.out) hb); have n1_ := Aside0.mk (below_step (by repeat first | (with_reducible first | exact HB.out | apply below_alloc | apply pw_below_drewN | apply below_drew1) | exact HB.out) hb); clear HO_16; clear HB; have HO_16 := n0_; have HB := n1_; clear n0_ n1_; (try clear hb); (try clear hb2); (try clear hk); (try clear hi)))
                    go_ret
                    exact ⟨by first | rfl | (simp [errW_none, errW_some] <;> rfl) | (simp only [← hji29, ← hji32, ← hji34]; first | rfl | (simp [errW_none, errW_some] <;> rfl)) | (simp [*, errW_none, errW_some] <;> rfl), by repeat first | (with_reducible first | exact HB.out | apply below_alloc | apply pw_below_drewN | apply below_drew1) | exact HB.out⟩
                · rw [if_neg c33] at H
                  exact absurd H (by simp)
              · rw [if_neg c31] at H
                exact absurd H (by simp)
            · rw [if_neg c30] at H
              exact absurd H (by simp)
  · rw [if_neg c10] at H
    have c10b0 : (t284 == 0) = false := beq_eq_false_iff_ne.mpr c10
    have c10b1 : (t284 != 0) = true := bne_iff_ne.mpr c10
    replace H := Option.bind_eq_some_iff.mp H
    obtain ⟨t285, A570, H⟩ := H
    replace H : (if t285 = true then (if (t281.length : Int) = 0 then (if t284 = 11 then (some true) else (if t284 = 2 then (some (decide ((t278.length : Int) > 1460))) else (some false))) else (some false)) else (some false)) = some r := H
    have A57 := Aside0.mk A570
    clear A570
    by_cases c58 : t285 = true
    · subst c58
      have H1 : (if (t281.length : Int) = 0 then (if t284 = 11 then (some true) else (if t284 = 2 then (some (decide ((t278.length : Int) > 1460))) else (some false))) else (some false)) = some r := by rw [if_pos rfl] at H; exact H
      clear H
      have H := H1
      clear H1
      by_cases c59 : (t281.length : Int) = 0
      · rw [if_pos c59] at H
        have c59b0 : ((t281.length : Int) == 0) = true := beq_iff_eq.mpr c59
        have c59b1 : ((t281.length : Int) != 0) = false := bne_eq_false_iff_eq.mpr c59
        clear c59
        by_cases c60 : t284 = 11
        · rw [if_pos c60] at H
          have c60b0 : (t284 == 11) = true := beq_iff_eq.mpr c60
          have c60b1 : (t284 != 11) = false := bne_eq_false_iff_eq.mpr c60
          clear c60
          obtain rfl := Option.some.inj H
          go_enter Try.func8, Try.ntmps8
          go_wp2_with (first | ((with_reducible refine gate_callee (f := 31) rfl ?_); refine goesL_ (some 31) rfl rfl Try.func31 (by kernel_rfl) rfl #[.slice A5 l5.length c5] rfl (by (try simp only [List.map_toArray, List.map_cons, List.map_nil]); first | done | rfl) ?_; (with_reducible refine (mantletlaw05_short.calls (fun k_ => k_ < w.heap.size) _ _ l5 t278 _ ?side1 A8.out).mono ?_); (case side1 => exact Kd.V_mk HC5.out (Kd.F_below (Kd.C_F (Kd.heap_int .u8) HR5.out) (by repeat first | (with_reducible first | exact HB.out | apply below_alloc | apply pw_below_drewN | apply below_drew1) | exact HB.out))); rintro e w61 ⟨v279, rfl, ho0, hb⟩; refine ⟨_, rfl, ?_⟩; have n0_ := Aside0.mk (Kd.V_lower (Kd.V_mono (ok' := fun k_ => True) ho0 (fun k_ hk_ => trivial)) (below_size (by repeat first | (with_reducible first | exact HB.out | apply below_alloc | apply pw_below_drewN | apply below_drew1) | exact HB.out))); have n1_ := Aside0.mk (below_step (by repeat first | (with_reducible first | exact HB.out | apply below_alloc | apply pw_below_drewN | apply below_drew1) | exact HB.out) hb); clear HB; have HO280 := n0_; have HB := n1_; clear n0_ n1_; (try clear hb); (try clear hb2); (try clear hk); (try clear hi); (try clear ho0); obtain ⟨Ao62, co62, eo62⟩ := Kd.V_slice HO280.out; subst eo62) | ((with_reducible refine gate_callee (f := 34) rfl ?_); refine goesL_ (some 39) rfl rfl Try.func34 (by kernel_rfl) rfl #[.int .u32 a0, .int .u32 a1, .int .u16 a2, .int .u16 a3, .int .u8 a4, .slice Ao62 t278.length co62] rfl (by (try simp only [List.map_toArray, List.map_cons, List.map_nil]); first | done | rfl) ?_; (with_reducible refine (tcp_Build.strong k a0 a1 a2 a3 a4 (fun k_ => True) _ _ t278 t281 t284 _ ?side1 A9.out).mono ?_); (case side1 => exact HO280.out); rintro e w63 ⟨v282, rfl, ho0, hb⟩; refine ⟨_, rfl, ?_⟩; have n0_ := Aside0.mk (Kd.V_elder' (by (with_reducible repeat (first | apply Kd.V_alloc | apply Kd.V_drewN | apply Kd.V_drew)); exact HO280.out) (Kd.K_base ho0) hb); have n1_ := Aside0.mk (Kd.K_lower (Kd.K_mono (ok' := fun k_ => True) ho0 (fun _ hk_ => trivial)) (below_size (by repeat first | (with_reducible first | exact HB.out | apply below_alloc | apply pw_below_drewN | apply below_drew1) | exact HB.out))); have n2_ := Aside0.mk (below_step (by repeat first | (with_reducible first | exact HB.out | apply below_alloc | apply pw_below_drewN | apply below_drew1) | exact HB.out) hb); clear HO280; clear HB; have HO280 := n0_; have HO283 := n1_; have HB := n2_; clear n0_ n1_ n2_; (try clear hb); (try clear hb2); (try clear hk); (try clear hi); (try clear ho0)) | ((with_reducible refine gate_callee (f := 33) rfl ?_); refine goesL_ (some 44) rfl rfl Try.func33 (by kernel_rfl) rfl #[] rfl (by (try simp only [List.map_toArray, List.map_cons, List.map_nil]); first | done | rfl) ?_; (with_reducible refine (mantletlaw05_awake.calls k  true _ A57.out).mono ?_); rintro e w64 ⟨rfl, hb⟩; refine ⟨_, rfl, ?_⟩; have n0_ := Aside0.mk (Kd.V_below (by (with_reducible repeat (first | apply Kd.V_alloc | apply Kd.V_drewN | apply Kd.V_drew)); exact HO280.out) hb); have n1_ := Aside0.mk (Kd.K_below (by (with_reducible repeat (first | apply Kd.K_alloc | apply Kd.K_drewN | apply Kd.K_drew)); exact HO283.out) hb); have n2_ := Aside0.mk (below_step (by repeat first | (with_reducible first | exact HB.out | apply below_alloc | apply pw_below_drewN | apply below_drew1) | exact HB.out) hb); clear HO280; clear HO283; clear HB; have HO280 := n0_; have HO283 := n1_; have HB := n2_; clear n0_ n1_ n2_; (try clear hb); (try clear hb2); (try clear hk); (try clear hi); obtain ⟨Ao65, co65, eo65⟩ := Kd.K_slice HO283.out; subst eo65))
          go_ret
          exact ⟨by first | rfl | (simp [errW_none, errW_some] <;> rfl) | (simp [*, errW_none, errW_some] <;> rfl), by repeat first | (with_reducible first | exact HB.out | apply below_alloc | apply pw_below_drewN | apply below_drew1) | exact HB.out⟩
        · rw [if_neg c60] at H
          have c60b0 : (t284 == 11) = false := beq_eq_false_iff_ne.mpr c60
          have c60b1 : (t284 != 11) = true := bne_iff_ne.mpr c60
          by_cases c66 : t284 = 2
          · rw [if_pos c66] at H
            have c66b0 : (t284 == 2) = true := beq_iff_eq.mpr c66
            have c66b1 : (t284 != 2) = false := bne_eq_false_iff_eq.mpr c66
            clear c66
            obtain rfl := Option.some.inj H
            go_enter Try.func8, Try.ntmps8
            go_wp2_with (first | ((with_reducible refine gate_callee (f := 31) rfl ?_); refine goesL_ (some 31) rfl rfl Try.func31 (by kernel_rfl) rfl #[.slice A5 l5.length c5] rfl (by (try simp only [List.map_toArray, List.map_cons, List.map_nil]); first | done | rfl) ?_; (with_reducible refine (mantletlaw05_short.calls (fun k_ => k_ < w.heap.size) _ _ l5 t278 _ ?side1 A8.out).mono ?_); (case side1 => exact Kd.V_mk HC5.out (Kd.F_below (Kd.C_F (Kd.heap_int .u8) HR5.out) (by repeat first | (with_reducible first | exact HB.out | apply below_alloc | apply pw_below_drewN | apply below_drew1) | exact HB.out))); rintro e w67 ⟨v279, rfl, ho0, hb⟩; refine ⟨_, rfl, ?_⟩; have n0_ := Aside0.mk (Kd.V_lower (Kd.V_mono (ok' := fun k_ => True) ho0 (fun k_ hk_ => trivial)) (below_size (by repeat first | (with_reducible first | exact HB.out | apply below_alloc | apply pw_below_drewN | apply below_drew1) | exact HB.out))); have n1_ := Aside0.mk (below_step (by repeat first | (with_reducible first | exact HB.out | apply below_alloc | apply pw_below_drewN | apply below_drew1) | exact HB.out) hb); clear HB; have HO280 := n0_; have HB := n1_; clear n0_ n1_; (try clear hb); (try clear hb2); (try clear hk); (try clear hi); (try clear ho0); obtain ⟨Ao68, co68, eo68⟩ := Kd.V_slice HO280.out; subst eo68) | ((with_reducible refine gate_callee (f := 34) rfl ?_); refine goesL_ (some 39) rfl rfl Try.func34 (by kernel_rfl) rfl #[.int .u32 a0, .int .u32 a1, .int .u16 a2, .int .u16 a3, .int .u8 a4, .slice Ao68 t278.length co68] rfl (by (try simp only [List.map_toArray, List.map_cons, List.map_nil]); first | done | rfl) ?_; (with_reducible refine (tcp_Build.strong k a0 a1 a2 a3 a4 (fun k_ => True) _ _ t278 t281 t284 _ ?side1 A9.out).mono ?_); (case side1 => exact HO280.out); rintro e w69 ⟨v282, rfl, ho0, hb⟩; refine ⟨_, rfl, ?_⟩; have n0_ := Aside0.mk (Kd.V_elder' (by (with_reducible repeat (first | apply Kd.V_alloc | apply Kd.V_drewN | apply Kd.V_drew)); exact HO280.out) (Kd.K_base ho0) hb); have n1_ := Aside0.mk (Kd.K_lower (Kd.K_mono (ok' := fun k_ => True) ho0 (fun _ hk_ => trivial)) (below_size (by repeat first | (with_reducible first | exact HB.out | apply below_alloc | apply pw_below_drewN | apply below_drew1) | exact HB.out))); have n2_ := Aside0.mk (below_step (by repeat first | (with_reducible first | exact HB.out | apply below_alloc | apply pw_below_drewN | apply below_drew1) | exact HB.out) hb); clear HO280; clear HB; have HO280 := n0_; have HO283 := n1_; have HB := n2_; clear n0_ n1_ n2_; (try clear hb); (try clear hb2); (try clear hk); (try clear hi); (try clear ho0)) | ((with_reducible refine gate_callee (f := 33) rfl ?_); refine goesL_ (some 44) rfl rfl Try.func33 (by kernel_rfl) rfl #[] rfl (by (try simp only [List.map_toArray, List.map_cons, List.map_nil]); first | done | rfl) ?_; (with_reducible refine (mantletlaw05_awake.calls k  true _ A57.out).mono ?_); rintro e w70 ⟨rfl, hb⟩; refine ⟨_, rfl, ?_⟩; have n0_ := Aside0.mk (Kd.V_below (by (with_reducible repeat (first | apply Kd.V_alloc | apply Kd.V_drewN | apply Kd.V_drew)); exact HO280.out) hb); have n1_ := Aside0.mk (Kd.K_below (by (with_reducible repeat (first | apply Kd.K_alloc | apply Kd.K_drewN | apply Kd.K_drew)); exact HO283.out) hb); have n2_ := Aside0.mk (below_step (by repeat first | (with_reducible first | exact HB.out | apply below_alloc | apply pw_below_drewN | apply below_drew1) | exact HB.out) hb); clear HO280; clear HO283; clear HB; have HO280 := n0_; have HO283 := n1_; have HB := n2_; clear n0_ n1_ n2_; (try clear hb); (try clear hb2); (try clear hk); (try clear hi); obtain ⟨Ao71, co71, eo71⟩ := Kd.K_slice HO283.out; subst eo71))
            go_ret
            exact ⟨by first | rfl | (simp [errW_none, errW_some] <;> rfl) | (simp [*, errW_none, errW_some] <;> rfl), by repeat first | (with_reducible first | exact HB.out | apply below_alloc | apply pw_below_drewN | apply below_drew1) | exact HB.out⟩
          · rw [if_neg c66] at H
            have c66b0 : (t284 == 2) = false := beq_eq_false_iff_ne.mpr c66
            have c66b1 : (t284 != 2) = true := bne_iff_ne.mpr c66
            obtain rfl := Option.some.inj H
            go_enter Try.func8, Try.ntmps8
            go_wp2_with (first | ((with_reducible refine gate_callee (f := 31) rfl ?_); refine goesL_ (some 31) rfl rfl Try.func31 (by kernel_rfl) rfl #[.slice A5 l5.length c5] rfl (by (try simp only [List.map_toArray, List.map_cons, List.map_nil]); first | done | rfl) ?_; (with_reducible refine (mantletlaw05_short.calls (fun k_ => k_ < w.heap.size) _ _ l5 t278 _ ?side1 A8.out).mono ?_); (case side1 => exact Kd.V_mk HC5.out (Kd.F_below (Kd.C_F (Kd.heap_int .u8) HR5.out) (by repeat first | (with_reducible first | exact HB.out | apply below_alloc | apply pw_below_drewN | apply below_drew1) | exact HB.out))); rintro e w72 ⟨v279, rfl, ho0, hb⟩; refine ⟨_, rfl, ?_⟩; have n0_ := Aside0.mk (Kd.V_lower (Kd.V_mono (ok' := fun k_ => True) ho0 (fun k_ hk_ => trivial)) (below_size (by repeat first | (with_reducible first | exact HB.out | apply below_alloc | apply pw_below_drewN | apply below_drew1) | exact HB.out))); have n1_ := Aside0.mk (below_step (by repeat first | (with_reducible first | exact HB.out | apply below_alloc | apply pw_below_drewN | apply below_drew1) | exact HB.out) hb); clear HB; have HO280 := n0_; have HB := n1_; clear n0_ n1_; (try clear hb); (try clear hb2); (try clear hk); (try clear hi); (try clear ho0); obtain ⟨Ao73, co73, eo73⟩ := Kd.V_slice HO280.out; subst eo73) | ((with_reducible refine gate_callee (f := 34) rfl ?_); refine goesL_ (some 39) rfl rfl Try.func34 (by kernel_rfl) rfl #[.int .u32 a0, .int .u32 a1, .int .u16 a2, .int .u16 a3, .int .u8 a4, .slice Ao73 t278.length co73] rfl (by (try simp only [List.map_toArray, List.map_cons, List.map_nil]); first | done | rfl) ?_; (with_reducible refine (tcp_Build.strong k a0 a1 a2 a3 a4 (fun k_ => True) _ _ t278 t281 t284 _ ?side1 A9.out).mono ?_); (case side1 => exact HO280.out); rintro e w74 ⟨v282, rfl, ho0, hb⟩; refine ⟨_, rfl, ?_⟩; have n0_ := Aside0.mk (Kd.V_elder' (by (with_reducible repeat (first | apply Kd.V_alloc | apply Kd.V_drewN | apply Kd.V_drew)); exact HO280.out) (Kd.K_base ho0) hb); have n1_ := Aside0.mk (Kd.K_lower (Kd.K_mono (ok' := fun k_ => True) ho0 (fun _ hk_ => trivial)) (below_size (by repeat first | (with_reducible first | exact HB.out | apply below_alloc | apply pw_below_drewN | apply below_drew1) | exact HB.out))); have n2_ := Aside0.mk (below_step (by repeat first | (with_reducible first | exact HB.out | apply below_alloc | apply pw_below_drewN | apply below_drew1) | exact HB.out) hb); clear HO280; clear HB; have HO280 := n0_; have HO283 := n1_; have HB := n2_; clear n0_ n1_ n2_; (try clear hb); (try clear hb2); (try clear hk); (try clear hi); (try clear ho0)) | ((with_reducible refine gate_callee (f := 33) rfl ?_); refine goesL_ (some 44) rfl rfl Try.func33 (by kernel_rfl) rfl #[] rfl (by (try simp only [List.map_toArray, List.map_cons, List.map_nil]); first | done | rfl) ?_; (with_reducible refine (mantletlaw05_awake.calls k  true _ A57.out).mono ?_); rintro e w75 ⟨rfl, hb⟩; refine ⟨_, rfl, ?_⟩; have n0_ := Aside0.mk (Kd.V_below (by (with_reducible repeat (first | apply Kd.V_alloc | apply Kd.V_drewN | apply Kd.V_drew)); exact HO280.out) hb); have n1_ := Aside0.mk (Kd.K_below (by (with_reducible repeat (first | apply Kd.K_alloc | apply Kd.K_drewN | apply Kd.K_drew)); exact HO283.out) hb); have n2_ := Aside0.mk (below_step (by repeat first | (with_reducible first | exact HB.out | apply below_alloc | apply pw_below_drewN | apply below_drew1) | exact HB.out) hb); clear HO280; clear HO283; clear HB; have HO280 := n0_; have HO283 := n1_; have HB := n2_; clear n0_ n1_ n2_; (try clear hb); (try clear hb2); (try clear hk); (try clear hi); obtain ⟨Ao76, co76, eo76⟩ := Kd.K_slice HO283.out; subst eo76))
            go_ret
            exact ⟨by first | rfl | (simp [errW_none, errW_some] <;> rfl) | (simp [*, errW_none, errW_some] <;> rfl), by repeat first | (with_reducible first | exact HB.out | apply below_alloc | apply pw_below_drewN | apply below_drew1) | exact HB.out⟩
      · rw [if_neg c59] at H
        have c59b0 : ((t281.length : Int) == 0) = false := beq_eq_false_iff_ne.mpr c59
        have c59b1 : ((t281.length : Int) != 0) = true := bne_iff_ne.mpr c59
        have c59b2 : ¬ (t281 = []) := fun h_ => c59 (by rw [h_]; rfl)
        obtain rfl := Option.some.inj H
        go_enter Try.func8, Try.ntmps8
        go_wp2_with (first | ((with_reducible refine gate_callee (f := 31) rfl ?_); refine goesL_ (some 31) rfl rfl Try.func31 (by kernel_rfl) rfl #[.slice A5 l5.length c5] rfl (by (try simp only [List.map_toArray, List.map_cons, List.map_nil]); first | done | rfl) ?_; (with_reducible refine (mantletlaw05_short.calls (fun k_ => k_ < w.heap.size) _ _ l5 t278 _ ?side1 A8.out).mono ?_); (case side1 => exact Kd.V_mk HC5.out (Kd.F_below (Kd.C_F (Kd.heap_int .u8) HR5.out) (by repeat first | (with_reducible first | exact HB.out | apply below_alloc | apply pw_below_drewN | apply below_drew1) | exact HB.out))); rintro e w77 ⟨v279, rfl, ho0, hb⟩; refine ⟨_, rfl, ?_⟩; have n0_ := Aside0.mk (Kd.V_lower (Kd.V_mono (ok' := fun k_ => True) ho0 (fun k_ hk_ => trivial)) (below_size (by repeat first | (with_reducible first | exact HB.out | apply below_alloc | apply pw_below_drewN | apply below_drew1) | exact HB.out))); have n1_ := Aside0.mk (below_step (by repeat first | (with_reducible first | exact HB.out | apply below_alloc | apply pw_below_drewN | apply below_drew1) | exact HB.out) hb); clear HB; have HO280 := n0_; have HB := n1_; clear n0_ n1_; (try clear hb); (try clear hb2); (try clear hk); (try clear hi); (try clear ho0); obtain ⟨Ao78, co78, eo78⟩ := Kd.V_slice HO280.out; subst eo78) | ((with_reducible refine gate_callee (f := 34) rfl ?_); refine goesL_ (some 39) rfl rfl Try.func34 (by kernel_rfl) rfl #[.int .u32 a0, .int .u32 a1, .int .u16 a2, .int .u16 a3, .int .u8 a4, .slice Ao78 t278.length co78] rfl (by (try simp only [List.map_toArray, List.map_cons, List.map_nil]); first | done | rfl) ?_; (with_reducible refine (tcp_Build.strong k a0 a1 a2 a3 a4 (fun k_ => True) _ _ t278 t281 t284 _ ?side1 A9.out).mono ?_); (case side1 => exact HO280.out); rintro e w79 ⟨v282, rfl, ho0, hb⟩; refine ⟨_, rfl, ?_⟩; have n0_ := Aside0.mk (Kd.V_elder' (by (with_reducible repeat (first | apply Kd.V_alloc | apply Kd.V_drewN | apply Kd.V_drew)); exact HO280.out) (Kd.K_base ho0) hb); have n1_ := Aside0.mk (Kd.K_lower (Kd.K_mono (ok' := fun k_ => True) ho0 (fun _ hk_ => trivial)) (below_size (by repeat first | (with_reducible first | exact HB.out | apply below_alloc | apply pw_below_drewN | apply below_drew1) | exact HB.out))); have n2_ := Aside0.mk (below_step (by repeat first | (with_reducible first | exact HB.out | apply below_alloc | apply pw_below_drewN | apply below_drew1) | exact HB.out) hb); clear HO280; clear HB; have HO280 := n0_; have HO283 := n1_; have HB := n2_; clear n0_ n1_ n2_; (try clear hb); (try clear hb2); (try clear hk); (try clear hi); (try clear ho0)) | ((with_reducible refine gate_callee (f := 33) rfl ?_); refine goesL_ (some 44) rfl rfl Try.func33 (by kernel_rfl) rfl #[] rfl (by (try simp only [List.map_toArray, List.map_cons, List.map_nil]); first | done | rfl) ?_; (with_reducible refine (mantletlaw05_awake.calls k  true _ A57.out).mono ?_); rintro e w80 ⟨rfl, hb⟩; refine ⟨_, rfl, ?_⟩; have n0_ := Aside0.mk (Kd.V_below (by (with_reducible repeat (first | apply Kd.V_alloc | apply Kd.V_drewN | apply Kd.V_drew)); exact HO280.out) hb); have n1_ := Aside0.mk (Kd.K_below (by (with_reducible repeat (first | apply Kd.K_alloc | apply Kd.K_drewN | apply Kd.K_drew)); exact HO283.out) hb); have n2_ := Aside0.mk (below_step (by repeat first | (with_reducible first | exact HB.out | apply below_alloc | apply pw_below_drewN | apply below_drew1) | exact HB.out) hb); clear HO280; clear HO283; clear HB; have HO280 := n0_; have HO283 := n1_; have HB := n2_; clear n0_ n1_ n2_; (try clear hb); (try clear hb2); (try clear hk); (try clear hi); obtain ⟨Ao81, co81, eo81⟩ := Kd.K_slice HO283.out; subst eo81))
        go_ret
        exact ⟨by first | rfl | (simp [errW_none, errW_some] <;> rfl) | (simp [*, errW_none, errW_some] <;> rfl), by repeat first | (with_reducible first | exact HB.out | apply below_alloc | apply pw_below_drewN | apply below_drew1) | exact HB.out⟩
    · replace c58 := Bool.eq_false_iff.mpr c58
      subst c58
      have H1 : (some false) = some r := by rw [if_neg (show ¬ (false = true) by decide)] at H; exact H
      clear H
      have H := H1
      clear H1
      obtain rfl := Option.some.inj H
      go_enter Try.func8, Try.ntmps8
      go_wp2_with (first | ((with_reducible refine gate_callee (f := 31) rfl ?_); refine goesL_ (some 31) rfl rfl Try.func31 (by kernel_rfl) rfl #[.slice A5 l5.length c5] rfl (by (try simp only [List.map_toArray, List.map_cons, List.map_nil]); first | done | rfl) ?_; (with_reducible refine (mantletlaw05_short.calls (fun k_ => k_ < w.heap.size) _ _ l5 t278 _ ?side1 A8.out).mono ?_); (case side1 => exact Kd.V_mk HC5.out (Kd.F_below (Kd.C_F (Kd.heap_int .u8) HR5.out) (by repeat first | (with_reducible first | exact HB.out | apply below_alloc | apply pw_below_drewN | apply below_drew1) | exact HB.out))); rintro e w82 ⟨v279, rfl, ho0, hb⟩; refine ⟨_, rfl, ?_⟩; have n0_ := Aside0.mk (Kd.V_lower (Kd.V_mono (ok' := fun k_ => True) ho0 (fun k_ hk_ => trivial)) (below_size (by repeat first | (with_reducible first | exact HB.out | apply below_alloc | apply pw_below_drewN | apply below_drew1) | exact HB.out))); have n1_ := Aside0.mk (below_step (by repeat first | (with_reducible first | exact HB.out | apply below_alloc | apply pw_below_drewN | apply below_drew1) | exact HB.out) hb); clear HB; have HO280 := n0_; have HB := n1_; clear n0_ n1_; (try clear hb); (try clear hb2); (try clear hk); (try clear hi); (try clear ho0); obtain ⟨Ao83, co83, eo83⟩ := Kd.V_slice HO280.out; subst eo83) | ((with_reducible refine gate_callee (f := 34) rfl ?_); refine goesL_ (some 39) rfl rfl Try.func34 (by kernel_rfl) rfl #[.int .u32 a0, .int .u32 a1, .int .u16 a2, .int .u16 a3, .int .u8 a4, .slice Ao83 t278.length co83] rfl (by (try simp only [List.map_toArray, List.map_cons, List.map_nil]); first | done | rfl) ?_; (with_reducible refine (tcp_Build.strong k a0 a1 a2 a3 a4 (fun k_ => True) _ _ t278 t281 t284 _ ?side1 A9.out).mono ?_); (case side1 => exact HO280.out); rintro e w84 ⟨v282, rfl, ho0, hb⟩; refine ⟨_, rfl, ?_⟩; have n0_ := Aside0.mk (Kd.V_elder' (by (with_reducible repeat (first | apply Kd.V_alloc | apply Kd.V_drewN | apply Kd.V_drew)); exact HO280.out) (Kd.K_base ho0) hb); have n1_ := Aside0.mk (Kd.K_lower (Kd.K_mono (ok' := fun k_ => True) ho0 (fun _ hk_ => trivial)) (below_size (by repeat first | (with_reducible first | exact HB.out | apply below_alloc | apply pw_below_drewN | apply below_drew1) | exact HB.out))); have n2_ := Aside0.mk (below_step (by repeat first | (with_reducible first | exact HB.out | apply below_alloc | apply pw_below_drewN | apply below_drew1) | exact HB.out) hb); clear HO280; clear HB; have HO280 := n0_; have HO283 := n1_; have HB := n2_; clear n0_ n1_ n2_; (try clear hb); (try clear hb2); (try clear hk); (try clear hi); (try clear ho0)) | ((with_reducible refine gate_callee (f := 33) rfl ?_); refine goesL_ (some 44) rfl rfl Try.func33 (by kernel_rfl) rfl #[] rfl (by (try simp only [List.map_toArray, List.map_cons, List.map_nil]); first | done | rfl) ?_; (with_reducible refine (mantletlaw05_awake.calls k  false _ A57.out).mono ?_); rintro e w85 ⟨rfl, hb⟩; refine ⟨_, rfl, ?_⟩; have n0_ := Aside0.mk (Kd.V_below (by (with_reducible repeat (first | apply Kd.V_alloc | apply Kd.V_drewN | apply Kd.V_drew)); exact HO280.out) hb); have n1_ := Aside0.mk (Kd.K_below (by (with_reducible repeat (first | apply Kd.K_alloc | apply Kd.K_drewN | apply Kd.K_drew)); exact HO283.out) hb); have n2_ := Aside0.mk (below_step (by repeat first | (with_reducible first | exact HB.out | apply below_alloc | apply pw_below_drewN | apply below_drew1) | exact HB.out) hb); clear HO280; clear HO283; clear HB; have HO280 := n0_; have HO283 := n1_; have HB := n2_; clear n0_ n1_ n2_; (try clear hb); (try clear hb2); (try clear hk); (try clear hi)))
      go_ret
      exact ⟨by first | rfl | (simp [errW_none, errW_some] <;> rfl) | (simp [*, errW_none, errW_some] <;> rfl), by repeat first | (with_reducible first | exact HB.out | apply below_alloc | apply pw_below_drewN | apply below_drew1) | exact HB.out⟩

/-- THE ONE PURE STATEMENT of mantletlaw05_TcpBack: yours. -/
def mantletlaw05_TcpBack.Pure : Prop := ∀ (a0 : Int) (a1 : Int) (a2 : Int) (a3 : Int) (a4 : Int) (l5 : List Int) (a6 : Int), (Lit.int .u32 a0).wf = true → (Lit.int .u32 a1).wf = true → (Lit.int .u16 a2).wf = true → (Lit.int .u16 a3).wf = true → (Lit.int .u8 a4).wf = true → l5.length ≤ maxLen → l5.length * 1 ≤ 140737488351232 → (∀ x ∈ l5, (Lit.int .u8 x).wf = true) → (Lit.int .u16 a6).wf = true → ∃ k, mantletlaw05_TcpBack.f k a0 a1 a2 a3 a4 l5 a6 = some true
theorem mantletlaw05_TcpBack.walk (P : mantletlaw05_TcpBack.Pure) (a0 : Int) (a1 : Int) (a2 : Int) (a3 : Int) (a4 : Int) (a5 : Option Addr) (len5 cap5 : Nat) (z5 : List Int) (a6 : Int) (w : World) (w0 : (Lit.int .u32 a0).wf = true) (w1 : (Lit.int .u32 a1).wf = true) (w2 : (Lit.int .u16 a2).wf = true) (w3 : (Lit.int .u16 a3).wf = true) (w4 : (Lit.int .u8 a4).wf = true) (w5 : (a5 = none ∧ len5 = 0 ∧ cap5 = 0 ∧ z5 = []) ∨ ∃ x, a5 = some x ∧ len5 ≤ cap5 ∧ cap5 ≤ maxLen ∧ z5.length = cap5 ∧ (∀ i, i < z5.length → w.cell? (x.add i) = some (.int .u8 (z5.getD i 0))) ∧ ∀ n ∈ z5, (Lit.int .u8 n).wf = true) (y5 : len5 * 1 ≤ 140737488351232) (w6 : (Lit.int .u16 a6).wf = true) :
    Calls Try.prog 8 #[.int .u32 a0, .int .u32 a1, .int .u16 a2, .int .u16 a3, .int .u8 a4, .slice a5 len5 cap5, .int .u16 a6] w fun e w' => e = .returned (.bool true) ∧ Below w.heap.size w w' := by
  obtain ⟨l5, rfl, hr5, hm5, hw5, hc5⟩ := ReadsInt.ofRowC w5
  obtain ⟨k, h⟩ := P a0 a1 a2 a3 a4 l5 a6 w0 w1 w2 w3 w4 hm5 y5 hw5 w6
  refine (mantletlaw05_TcpBack.calls k a0 a1 a2 a3 a4 _ _ l5 a6 true w (Kd.C_of_reads (d := (0 : Int)) (h1 := fun _ => rfl) hr5) hc5 h).mono ?_
  rintro e w' ⟨rfl, hd⟩
  exact ⟨rfl, hd⟩

end Go.Proofs.Ytofjgdbiieanjaa.All
