/-
  LinePairs: the law: a function that mirrors the run, and the run (printed by walk.py; prP there is prP).
-/
import Derived.Test.YtbkpojiedkhfkaaGreatQ8
set_option linter.unusedVariables false
set_option linter.unusedSimpArgs false
set_option maxRecDepth 100000
set_option linter.unusedSimpArgs false
set_option linter.unusedVariables false
set_option maxHeartbeats 4000000
namespace Go.Z
open Go Go.Abs
noncomputable def j10_17 (a0 : Option (List GUnit)) (a1 : Option (List GPair)) (p7 : Int) (p8 : Int) (p9 : Option (List GPair)) (p10 : Int) (p11 : Int) (p12 : Int) (p13 : Int) (p14 : Int) (p15 : Int) (p16 : Int) (p18 : Int) (p19 : Int) (p20 : Int) (p21 : Int) (p22 : Int) (p23 : Int) (p25 : Option (List GPair)) (p139 : Bool) (q0_0 : List UInt8) (q0_1 : Option (List Int)) (q1_0 : List UInt8) (q1_1 : Option (List Int)) : Option Bool :=
  cond p139
   (obind (f72 a0) fun v93 =>
    obind (E40 p7 p8 p16 p21) fun v95 =>
    cond v95
     (obind (f73 p9 p25) fun v98 =>
      cond v98
       (obind (E40 p10 p11 p18 p22) fun v101 =>
        cond v101
         (obind (E40 p12 p13 p19 p23) fun v104 =>
          cond v104
           (obind (E40 p14 p15 p20 v93) fun v107 =>
            some v107)
           (some false))
         (some false))
       (some false))
     (some false))
   (obind (E40 p7 p8 p16 p21) fun v109 =>
    cond v109
     (obind (f73 p9 p25) fun v112 =>
      cond v112
       (obind (E40 p10 p11 p18 p22) fun v115 =>
        cond v115
         (obind (E40 p12 p13 p19 p23) fun v118 =>
          cond v118
           (obind (E40 p14 p15 p20 0) fun v121 =>
            some v121)
           (some false))
         (some false))
       (some false))
     (some false))
theorem J10_17 {a0 : Option (List GUnit)} {a1 : Option (List GPair)} {p7 : Int} {p8 : Int} {p9 : Option (List GPair)} {p10 : Int} {p11 : Int} {p12 : Int} {p13 : Int} {p14 : Int} {p15 : Int} {p16 : Int} {p18 : Int} {p19 : Int} {p20 : Int} {p21 : Int} {p22 : Int} {p23 : Int} {p25 : Option (List GPair)} {p139 : Bool} {q0_0 : List UInt8} {q0_1 : Option (List Int)} {q1_0 : List UInt8} {q1_1 : Option (List Int)} {r} (h : j10_17 a0 a1 p7 p8 p9 p10 p11 p12 p13 p14 p15 p16 p18 p19 p20 p21 p22 p23 p25 p139 q0_0 q0_1 q1_0 q1_1 = some r) : ∃ hh, thenX (X prP c10_c17 ⟨[(0, sl 2 vunit a0, false), (7, .int .i64 p7, false), (8, .int .i64 p8, false), (9, sl 2 vpair p9, false), (10, .int .i64 p10, false), (11, .int .i64 p11, false), (12, .int .i64 p12, false), (13, .int .i64 p13, false), (14, .int .i64 p14, false), (15, .int .i64 p15, false), (16, .int .i64 p16, false), (18, .int .i64 p18, false), (19, .int .i64 p19, false), (20, .int .i64 p20, false), (21, .int .i64 p21, false), (22, .int .i64 p22, false), (23, .int .i64 p23, false), (24, .int .i64 0, false), (25, sl 2 vpair p25, false), (139, .bool p139, false)], [.cells [(.str q0_0, false), (sl 1 vint q0_1, false)], .cells [(.str q1_0, false), (sl 1 vint q1_1, false)]]⟩) (X prP c10_k18) = some (.ret, ⟨[(4, .bool r, false)], hh⟩) := by
  unfold j10_17 at h
  rcases cond_split h with ⟨h92, h⟩ | ⟨h92, h⟩
  · obtain ⟨v93, h94, h⟩ := obind_some h
    have wh94 : callIso prP (X prP) 72 [sl 2 vunit a0] = some (.int .i64 v93, false) := N72 h94
    obtain ⟨v95, h96, h⟩ := obind_some h
    have wh96 : callIso prP (X prP) 40 [.int .i64 p7, .int .i64 p8, .int .i64 p16, .int .i64 p21] = some (.bool v95, false) := N40 h96
    rcases cond_split h with ⟨h97, h⟩ | ⟨h97, h⟩
    · obtain ⟨v98, h99, h⟩ := obind_some h
      have wh99 : callIso prP (X prP) 73 [sl 2 vpair p9, sl 2 vpair p25] = some (.bool v98, false) := N73 h99
      rcases cond_split h with ⟨h100, h⟩ | ⟨h100, h⟩
      · obtain ⟨v101, h102, h⟩ := obind_some h
        have wh102 : callIso prP (X prP) 40 [.int .i64 p10, .int .i64 p11, .int .i64 p18, .int .i64 p22] = some (.bool v101, false) := N40 h102
        rcases cond_split h with ⟨h103, h⟩ | ⟨h103, h⟩
        · obtain ⟨v104, h105, h⟩ := obind_some h
          have wh105 : callIso prP (X prP) 40 [.int .i64 p12, .int .i64 p13, .int .i64 p19, .int .i64 p23] = some (.bool v104, false) := N40 h105
          rcases cond_split h with ⟨h106, h⟩ | ⟨h106, h⟩
          · obtain ⟨v107, h108, h⟩ := obind_some h
            have wh108 : callIso prP (X prP) 40 [.int .i64 p14, .int .i64 p15, .int .i64 p20, .int .i64 v93] = some (.bool v107, false) := N40 h108
            have hr : v107 = r := Option.some.inj h
            subst hr
            refine ⟨[.cells [(.str q0_0, false), (sl 1 vint q0_1, false)], .cells [(.str q1_0, false), (sl 1 vint q1_1, false)]], ?_⟩
            simp only [go_sem, seval, c10_c17, c10_k18, h92, wh94, wh96, h97, wh99, h100, wh102, h103, wh105, h106, wh108] <;> rfl
          · have hr : false = r := Option.some.inj h
            subst hr
            refine ⟨[.cells [(.str q0_0, false), (sl 1 vint q0_1, false)], .cells [(.str q1_0, false), (sl 1 vint q1_1, false)]], ?_⟩
            simp only [go_sem, seval, c10_c17, c10_k18, h92, wh94, wh96, h97, wh99, h100, wh102, h103, wh105, h106] <;> rfl
        · have hr : false = r := Option.some.inj h
          subst hr
          refine ⟨[.cells [(.str q0_0, false), (sl 1 vint q0_1, false)], .cells [(.str q1_0, false), (sl 1 vint q1_1, false)]], ?_⟩
          simp only [go_sem, seval, c10_c17, c10_k18, h92, wh94, wh96, h97, wh99, h100, wh102, h103] <;> rfl
      · have hr : false = r := Option.some.inj h
        subst hr
        refine ⟨[.cells [(.str q0_0, false), (sl 1 vint q0_1, false)], .cells [(.str q1_0, false), (sl 1 vint q1_1, false)]], ?_⟩
        simp only [go_sem, seval, c10_c17, c10_k18, h92, wh94, wh96, h97, wh99, h100] <;> rfl
    · have hr : false = r := Option.some.inj h
      subst hr
      refine ⟨[.cells [(.str q0_0, false), (sl 1 vint q0_1, false)], .cells [(.str q1_0, false), (sl 1 vint q1_1, false)]], ?_⟩
      simp only [go_sem, seval, c10_c17, c10_k18, h92, wh94, wh96, h97] <;> rfl
  · obtain ⟨v109, h110, h⟩ := obind_some h
    have wh110 : callIso prP (X prP) 40 [.int .i64 p7, .int .i64 p8, .int .i64 p16, .int .i64 p21] = some (.bool v109, false) := N40 h110
    rcases cond_split h with ⟨h111, h⟩ | ⟨h111, h⟩
    · obtain ⟨v112, h113, h⟩ := obind_some h
      have wh113 : callIso prP (X prP) 73 [sl 2 vpair p9, sl 2 vpair p25] = some (.bool v112, false) := N73 h113
      rcases cond_split h with ⟨h114, h⟩ | ⟨h114, h⟩
      · obtain ⟨v115, h116, h⟩ := obind_some h
        have wh116 : callIso prP (X prP) 40 [.int .i64 p10, .int .i64 p11, .int .i64 p18, .int .i64 p22] = some (.bool v115, false) := N40 h116
        rcases cond_split h with ⟨h117, h⟩ | ⟨h117, h⟩
        · obtain ⟨v118, h119, h⟩ := obind_some h
          have wh119 : callIso prP (X prP) 40 [.int .i64 p12, .int .i64 p13, .int .i64 p19, .int .i64 p23] = some (.bool v118, false) := N40 h119
          rcases cond_split h with ⟨h120, h⟩ | ⟨h120, h⟩
          · obtain ⟨v121, h122, h⟩ := obind_some h
            have wh122 : callIso prP (X prP) 40 [.int .i64 p14, .int .i64 p15, .int .i64 p20, .int .i64 0] = some (.bool v121, false) := N40 h122
            have hr : v121 = r := Option.some.inj h
            subst hr
            refine ⟨[.cells [(.str q0_0, false), (sl 1 vint q0_1, false)], .cells [(.str q1_0, false), (sl 1 vint q1_1, false)]], ?_⟩
            simp only [go_sem, seval, c10_c17, c10_k18, h92, wh110, h111, wh113, h114, wh116, h117, wh119, h120, wh122] <;> rfl
          · have hr : false = r := Option.some.inj h
            subst hr
            refine ⟨[.cells [(.str q0_0, false), (sl 1 vint q0_1, false)], .cells [(.str q1_0, false), (sl 1 vint q1_1, false)]], ?_⟩
            simp only [go_sem, seval, c10_c17, c10_k18, h92, wh110, h111, wh113, h114, wh116, h117, wh119, h120] <;> rfl
        · have hr : false = r := Option.some.inj h
          subst hr
          refine ⟨[.cells [(.str q0_0, false), (sl 1 vint q0_1, false)], .cells [(.str q1_0, false), (sl 1 vint q1_1, false)]], ?_⟩
          simp only [go_sem, seval, c10_c17, c10_k18, h92, wh110, h111, wh113, h114, wh116, h117] <;> rfl
      · have hr : false = r := Option.some.inj h
        subst hr
        refine ⟨[.cells [(.str q0_0, false), (sl 1 vint q0_1, false)], .cells [(.str q1_0, false), (sl 1 vint q1_1, false)]], ?_⟩
        simp only [go_sem, seval, c10_c17, c10_k18, h92, wh110, h111, wh113, h114] <;> rfl
    · have hr : false = r := Option.some.inj h
      subst hr
      refine ⟨[.cells [(.str q0_0, false), (sl 1 vint q0_1, false)], .cells [(.str q1_0, false), (sl 1 vint q1_1, false)]], ?_⟩
      simp only [go_sem, seval, c10_c17, c10_k18, h92, wh110, h111] <;> rfl
noncomputable def j10_16 (a0 : Option (List GUnit)) (a1 : Option (List GPair)) (p7 : Int) (p8 : Int) (p9 : Option (List GPair)) (p10 : Int) (p11 : Int) (p12 : Int) (p13 : Int) (p14 : Int) (p15 : Int) (p16 : Int) (p18 : Int) (p19 : Int) (p20 : Int) (p21 : Int) (p22 : Int) (p25 : Option (List GPair)) (p129 : Bool) (q0_0 : List UInt8) (q0_1 : Option (List Int)) (q1_0 : List UInt8) (q1_1 : Option (List Int)) : Option Bool :=
  cond p129
   (obind (f70 a0 a1) fun v87 =>
    cond (decide (v87 = 0))
     (obind (f71 a0 a1) fun v90 =>
      j10_17 a0 a1 p7 p8 p9 p10 p11 p12 p13 p14 p15 p16 p18 v87 p20 p21 p22 v90 p25 (decide (p20 = 0)) q0_0 q0_1 q1_0 q1_1)
     (j10_17 a0 a1 p7 p8 p9 p10 p11 p12 p13 p14 p15 p16 p18 v87 p20 p21 p22 0 p25 (decide (p20 = 0)) q0_0 q0_1 q1_0 q1_1))
   (j10_17 a0 a1 p7 p8 p9 p10 p11 p12 p13 p14 p15 p16 p18 p19 p20 p21 p22 0 p25 (decide (p20 = 0)) q0_0 q0_1 q1_0 q1_1)
theorem J10_16 {a0 : Option (List GUnit)} {a1 : Option (List GPair)} {p7 : Int} {p8 : Int} {p9 : Option (List GPair)} {p10 : Int} {p11 : Int} {p12 : Int} {p13 : Int} {p14 : Int} {p15 : Int} {p16 : Int} {p18 : Int} {p19 : Int} {p20 : Int} {p21 : Int} {p22 : Int} {p25 : Option (List GPair)} {p129 : Bool} {q0_0 : List UInt8} {q0_1 : Option (List Int)} {q1_0 : List UInt8} {q1_1 : Option (List Int)} {r} (h : j10_16 a0 a1 p7 p8 p9 p10 p11 p12 p13 p14 p15 p16 p18 p19 p20 p21 p22 p25 p129 q0_0 q0_1 q1_0 q1_1 = some r) : ∃ hh, thenX (X prP c10_c16 ⟨[(0, sl 2 vunit a0, false), (1, sl 2 vpair a1, false), (7, .int .i64 p7, false), (8, .int .i64 p8, false), (9, sl 2 vpair p9, false), (10, .int .i64 p10, false), (11, .int .i64 p11, false), (12, .int .i64 p12, false), (13, .int .i64 p13, false), (14, .int .i64 p14, false), (15, .int .i64 p15, false), (16, .int .i64 p16, false), (18, .int .i64 p18, false), (19, .int .i64 p19, false), (20, .int .i64 p20, false), (21, .int .i64 p21, false), (22, .int .i64 p22, false), (23, .int .i64 0, false), (24, .int .i64 0, false), (25, sl 2 vpair p25, false), (129, .bool p129, false)], [.cells [(.str q0_0, false), (sl 1 vint q0_1, false)], .cells [(.str q1_0, false), (sl 1 vint q1_1, false)]]⟩) (X prP c10_k17) = some (.ret, ⟨[(4, .bool r, false)], hh⟩) := by
  unfold j10_16 at h
  rcases cond_split h with ⟨h86, h⟩ | ⟨h86, h⟩
  · obtain ⟨v87, h88, h⟩ := obind_some h
    have wh88 : callIso prP (X prP) 70 [sl 2 vunit a0, sl 2 vpair a1] = some (.int .i64 v87, false) := N70 h88
    rcases cond_split h with ⟨h89, h⟩ | ⟨h89, h⟩
    · obtain ⟨v90, h91, h⟩ := obind_some h
      have wh91 : callIso prP (X prP) 71 [sl 2 vunit a0, sl 2 vpair a1] = some (.int .i64 v90, false) := N71 h91
      obtain ⟨hh, hk⟩ := J10_17 h
      refine ⟨hh, ?_⟩
      simp only [go_sem, seval, c10_c16, c10_k17, h86, wh88, h89, wh91]
      exact hk
    · obtain ⟨hh, hk⟩ := J10_17 h
      refine ⟨hh, ?_⟩
      simp only [go_sem, seval, c10_c16, c10_k17, h86, wh88, h89]
      exact hk
  · obtain ⟨hh, hk⟩ := J10_17 h
    refine ⟨hh, ?_⟩
    simp only [go_sem, seval, c10_c16, c10_k17, h86]
    exact hk
noncomputable def j10_15 (a0 : Option (List GUnit)) (a1 : Option (List GPair)) (p7 : Int) (p8 : Int) (p9 : Option (List GPair)) (p10 : Int) (p11 : Int) (p12 : Int) (p13 : Int) (p14 : Int) (p15 : Int) (p16 : Int) (p18 : Int) (p19 : Int) (p20 : Int) (p21 : Int) (p122 : Bool) (q0_0 : List UInt8) (q0_1 : Option (List Int)) (q1_0 : List UInt8) (q1_1 : Option (List Int)) : Option Bool :=
  cond p122
   (obind (f69 a0) fun v84 =>
    j10_16 a0 a1 p7 p8 p9 p10 p11 p12 p13 p14 p15 p16 p18 p19 p20 p21 v84.2 v84.1 (decide (p19 = 0)) q0_0 q0_1 q1_0 q1_1)
   (j10_16 a0 a1 p7 p8 p9 p10 p11 p12 p13 p14 p15 p16 p18 p19 p20 p21 0 none (decide (p19 = 0)) q0_0 q0_1 q1_0 q1_1)
theorem J10_15 {a0 : Option (List GUnit)} {a1 : Option (List GPair)} {p7 : Int} {p8 : Int} {p9 : Option (List GPair)} {p10 : Int} {p11 : Int} {p12 : Int} {p13 : Int} {p14 : Int} {p15 : Int} {p16 : Int} {p18 : Int} {p19 : Int} {p20 : Int} {p21 : Int} {p122 : Bool} {q0_0 : List UInt8} {q0_1 : Option (List Int)} {q1_0 : List UInt8} {q1_1 : Option (List Int)} {r} (h : j10_15 a0 a1 p7 p8 p9 p10 p11 p12 p13 p14 p15 p16 p18 p19 p20 p21 p122 q0_0 q0_1 q1_0 q1_1 = some r) : ∃ hh, thenX (X prP c10_c15 ⟨[(0, sl 2 vunit a0, false), (1, sl 2 vpair a1, false), (7, .int .i64 p7, false), (8, .int .i64 p8, false), (9, sl 2 vpair p9, false), (10, .int .i64 p10, false), (11, .int .i64 p11, false), (12, .int .i64 p12, false), (13, .int .i64 p13, false), (14, .int .i64 p14, false), (15, .int .i64 p15, false), (16, .int .i64 p16, false), (18, .int .i64 p18, false), (19, .int .i64 p19, false), (20, .int .i64 p20, false), (21, .int .i64 p21, false), (22, .int .i64 0, false), (23, .int .i64 0, false), (24, .int .i64 0, false), (25, .list true 0 [], false), (122, .bool p122, false)], [.cells [(.str q0_0, false), (sl 1 vint q0_1, false)], .cells [(.str q1_0, false), (sl 1 vint q1_1, false)]]⟩) (X prP c10_k16) = some (.ret, ⟨[(4, .bool r, false)], hh⟩) := by
  unfold j10_15 at h
  rcases cond_split h with ⟨h83, h⟩ | ⟨h83, h⟩
  · obtain ⟨v84, h85, h⟩ := obind_some h
    have wh85 : callIso prP (X prP) 69 [sl 2 vunit a0] = some (.tup [sl 2 vpair v84.1, .int .i64 v84.2], false) := N69 h85
    obtain ⟨hh, hk⟩ := J10_16 h
    refine ⟨hh, ?_⟩
    simp only [go_sem, seval, c10_c15, c10_k16, h83, wh85]
    exact hk
  · obtain ⟨hh, hk⟩ := J10_16 h
    refine ⟨hh, ?_⟩
    simp only [go_sem, seval, c10_c15, c10_k16, h83]
    exact hk
noncomputable def j10_14 (a0 : Option (List GUnit)) (a1 : Option (List GPair)) (p7 : Int) (p8 : Int) (p9 : Option (List GPair)) (p10 : Int) (p11 : Int) (p12 : Int) (p13 : Int) (p14 : Int) (p15 : Int) (p16 : Int) (p18 : Int) (p19 : Int) (p20 : Int) (p117 : Bool) (q0_0 : List UInt8) (q0_1 : Option (List Int)) (q1_0 : List UInt8) (q1_1 : Option (List Int)) : Option Bool :=
  cond p117
   (obind (f68 (⟨q0_0, q0_1⟩) (⟨q1_0, q1_1⟩)) fun v81 =>
    j10_15 a0 a1 p7 p8 p9 p10 p11 p12 p13 p14 p15 p16 p18 p19 p20 v81 (decide (p18 = 0)) q0_0 q0_1 q1_0 q1_1)
   (j10_15 a0 a1 p7 p8 p9 p10 p11 p12 p13 p14 p15 p16 p18 p19 p20 0 (decide (p18 = 0)) q0_0 q0_1 q1_0 q1_1)
theorem J10_14 {a0 : Option (List GUnit)} {a1 : Option (List GPair)} {p7 : Int} {p8 : Int} {p9 : Option (List GPair)} {p10 : Int} {p11 : Int} {p12 : Int} {p13 : Int} {p14 : Int} {p15 : Int} {p16 : Int} {p18 : Int} {p19 : Int} {p20 : Int} {p117 : Bool} {q0_0 : List UInt8} {q0_1 : Option (List Int)} {q1_0 : List UInt8} {q1_1 : Option (List Int)} {r} (h : j10_14 a0 a1 p7 p8 p9 p10 p11 p12 p13 p14 p15 p16 p18 p19 p20 p117 q0_0 q0_1 q1_0 q1_1 = some r) : ∃ hh, thenX (X prP c10_c14 ⟨[(0, sl 2 vunit a0, false), (1, sl 2 vpair a1, false), (5, .ptr 0 0, false), (6, .ptr 1 0, false), (7, .int .i64 p7, false), (8, .int .i64 p8, false), (9, sl 2 vpair p9, false), (10, .int .i64 p10, false), (11, .int .i64 p11, false), (12, .int .i64 p12, false), (13, .int .i64 p13, false), (14, .int .i64 p14, false), (15, .int .i64 p15, false), (16, .int .i64 p16, false), (18, .int .i64 p18, false), (19, .int .i64 p19, false), (20, .int .i64 p20, false), (21, .int .i64 0, false), (22, .int .i64 0, false), (23, .int .i64 0, false), (24, .int .i64 0, false), (25, .list true 0 [], false), (117, .bool p117, false)], [.cells [(.str q0_0, false), (sl 1 vint q0_1, false)], .cells [(.str q1_0, false), (sl 1 vint q1_1, false)]]⟩) (X prP c10_k15) = some (.ret, ⟨[(4, .bool r, false)], hh⟩) := by
  unfold j10_14 at h
  rcases cond_split h with ⟨h80, h⟩ | ⟨h80, h⟩
  · obtain ⟨v81, h82, h⟩ := obind_some h
    have wh82 : callIso prP (X prP) 68 [.agg [.str q0_0, sl 1 vint q0_1], .agg [.str q1_0, sl 1 vint q1_1]] = some (.int .i64 v81, false) := N68 h82
    obtain ⟨hh, hk⟩ := J10_15 h
    refine ⟨hh, ?_⟩
    simp only [go_sem, seval, c10_c14, c10_k15, h80, wh82]
    exact hk
  · obtain ⟨hh, hk⟩ := J10_15 h
    refine ⟨hh, ?_⟩
    simp only [go_sem, seval, c10_c14, c10_k15, h80]
    exact hk
noncomputable def j10_3 (a0 : Option (List GUnit)) (a1 : Option (List GPair)) : Option Bool :=
  cond (decide (0 < ((a0.getD []).length : Int)))
   (obind (idxO (a0.getD []) 0) fun v14 =>
    obind (idxO (a0.getD []) (wrapF .i64 (((a0.getD []).length : Int) - 1))) fun v16 =>
    obind (E32 v14) fun v18 =>
    obind (E32 v16) fun v20 =>
    obind (f59 v18 v20) fun v22 =>
    obind (E18 a0) fun v24 =>
    obind (f56 v24) fun v26 =>
    obind (apO (some []) (a1.getD [])) fun v28 =>
    obind (f66 v24 v28) fun v30 =>
    obind (f57 v24) fun v32 =>
    obind (f67 v14 v16) fun v34 =>
    obind (E22 a0) fun v36 =>
    obind (remO ((a0.getD []).length : Int) 2) fun v38 =>
    obind (E24 (!decide (v38 = 0)) 35) fun v40 =>
    obind (E24 (decide (8 < ((a0.getD []).length : Int))) 23) fun v42 =>
    obind (E21 (some [v36, v40, v42])) fun v44 =>
    obind (E24 (decide (((a0.getD []).length : Int) = 0)) 12) fun v46 =>
    obind (E21 (some [v36, v46])) fun v48 =>
    j10_14 a0 a1 v22.1 v22.2 v26.1 v26.2.1 v26.2.2 v30.1 v30.2 v32.1 v32.2 v34 v44 v36 v48 (decide (v34 = 0)) v14.serial v14.values v16.serial v16.values)
   (obind (E32 (⟨[], none⟩)) fun v50 =>
    obind (f59 v50 v50) fun v52 =>
    obind (E18 a0) fun v54 =>
    obind (f56 v54) fun v56 =>
    obind (apO (some []) (a1.getD [])) fun v58 =>
    obind (f66 v54 v58) fun v60 =>
    obind (f57 v54) fun v62 =>
    obind (f67 (⟨[], none⟩) (⟨[], none⟩)) fun v64 =>
    obind (E22 a0) fun v66 =>
    obind (remO ((a0.getD []).length : Int) 2) fun v68 =>
    obind (E24 (!decide (v68 = 0)) 35) fun v70 =>
    obind (E24 (decide (8 < ((a0.getD []).length : Int))) 23) fun v72 =>
    obind (E21 (some [v66, v70, v72])) fun v74 =>
    obind (E24 (decide (((a0.getD []).length : Int) = 0)) 12) fun v76 =>
    obind (E21 (some [v66, v76])) fun v78 =>
    j10_14 a0 a1 v52.1 v52.2 v56.1 v56.2.1 v56.2.2 v60.1 v60.2 v62.1 v62.2 v64 v74 v66 v78 (decide (v64 = 0)) [] none [] none)
theorem J10_3 {a0 : Option (List GUnit)} {a1 : Option (List GPair)} {r} (h : j10_3 a0 a1 = some r) : ∃ hh, thenX (X prP c10_c3 ⟨[(0, sl 2 vunit a0, false), (1, sl 2 vpair a1, false), (5, .ptr 0 0, false), (6, .ptr 1 0, false), (51, .bool (decide (0 < ((a0.getD []).length : Int))), false)], [.cells [(.str [], false), (.list true 0 [], false)], .cells [(.str [], false), (.list true 0 [], false)]]⟩) (X prP c10_k4) = some (.ret, ⟨[(4, .bool r, false)], hh⟩) := by
  unfold j10_3 at h
  rcases cond_split h with ⟨h13, h⟩ | ⟨h13, h⟩
  · obtain ⟨v14, h15, h⟩ := obind_some h
    obtain ⟨v16, h17, h⟩ := obind_some h
    obtain ⟨v18, h19, h⟩ := obind_some h
    have wh19 : callIso prP (X prP) 32 [.agg [.str v14.serial, sl 1 vint v14.values]] = some (.agg [.str v18.serial, sl 1 vint v18.values], false) := N32 h19
    obtain ⟨v20, h21, h⟩ := obind_some h
    have wh21 : callIso prP (X prP) 32 [.agg [.str v16.serial, sl 1 vint v16.values]] = some (.agg [.str v20.serial, sl 1 vint v20.values], false) := N32 h21
    obtain ⟨v22, h23, h⟩ := obind_some h
    have wh23 : callIso prP (X prP) 59 [.agg [.str v18.serial, sl 1 vint v18.values], .agg [.str v20.serial, sl 1 vint v20.values]] = some (.tup [.int .i64 v22.1, .int .i64 v22.2], false) := N59 h23
    obtain ⟨v24, h25, h⟩ := obind_some h
    have wh25 : callIso prP (X prP) 18 [sl 2 vunit a0] = some (sl 2 vunit v24, (accO (a0.getD []))) := N18 h25
    obtain ⟨v26, h27, h⟩ := obind_some h
    have wh27 : callIso prP (X prP) 56 [sl 2 vunit v24] = some (.tup [sl 2 vpair v26.1, .int .i64 v26.2.1, .int .i64 v26.2.2], false) := N56 h27
    obtain ⟨v28, h29, h⟩ := obind_some h
    obtain ⟨v30, h31, h⟩ := obind_some h
    have wh31 : callIso prP (X prP) 66 [sl 2 vunit v24, sl 2 vpair v28] = some (.tup [.int .i64 v30.1, .int .i64 v30.2], false) := N66 h31
    obtain ⟨v32, h33, h⟩ := obind_some h
    have wh33 : callIso prP (X prP) 57 [sl 2 vunit v24] = some (.tup [.int .i64 v32.1, .int .i64 v32.2], false) := N57 h33
    obtain ⟨v34, h35, h⟩ := obind_some h
    have wh35 : callIso prP (X prP) 67 [.agg [.str v14.serial, sl 1 vint v14.values], .agg [.str v16.serial, sl 1 vint v16.values]] = some (.int .i64 v34, false) := N67 h35
    obtain ⟨v36, h37, h⟩ := obind_some h
    have wh37 : callIso prP (X prP) 22 [sl 2 vunit a0] = some (.int .i64 v36, false) := N22 h37
    obtain ⟨v38, h39, h⟩ := obind_some h
    obtain ⟨v40, h41, h⟩ := obind_some h
    have wh41 : callIso prP (X prP) 24 [.bool (!decide (v38 = 0)), .int .i64 35] = some (.int .i64 v40, false) := N24 h41
    obtain ⟨v42, h43, h⟩ := obind_some h
    have wh43 : callIso prP (X prP) 24 [.bool (decide (8 < ((a0.getD []).length : Int))), .int .i64 23] = some (.int .i64 v42, false) := N24 h43
    obtain ⟨v44, h45, h⟩ := obind_some h
    have wh45 : callIso prP (X prP) 21 [.list false 1 [.int .i64 v36, .int .i64 v40, .int .i64 v42]] = some (.int .i64 v44, false) := N21 h45
    obtain ⟨v46, h47, h⟩ := obind_some h
    have wh47 : callIso prP (X prP) 24 [.bool (decide (((a0.getD []).length : Int) = 0)), .int .i64 12] = some (.int .i64 v46, false) := N24 h47
    obtain ⟨v48, h49, h⟩ := obind_some h
    have wh49 : callIso prP (X prP) 21 [.list false 1 [.int .i64 v36, .int .i64 v46]] = some (.int .i64 v48, false) := N21 h49
    obtain ⟨hh, hk⟩ := J10_14 h
    refine ⟨hh, ?_⟩
    simp only [go_sem, seval, c10_c3, c10_k4, h13, idxR_O h15, idxR_O h17, wh19, wh21, wh23, wh25, wh27, app_lit_O h29, wh31, wh33, wh35, wh37, b_rem_O h39, wh41, wh43, wh45, wh47, wh49]
    exact hk
  · obtain ⟨v50, h51, h⟩ := obind_some h
    have wh51 : callIso prP (X prP) 32 [.agg [.str [], .list true 0 []]] = some (.agg [.str v50.serial, sl 1 vint v50.values], false) := N32 h51
    obtain ⟨v52, h53, h⟩ := obind_some h
    have wh53 : callIso prP (X prP) 59 [.agg [.str v50.serial, sl 1 vint v50.values], .agg [.str v50.serial, sl 1 vint v50.values]] = some (.tup [.int .i64 v52.1, .int .i64 v52.2], false) := N59 h53
    obtain ⟨v54, h55, h⟩ := obind_some h
    have wh55 : callIso prP (X prP) 18 [sl 2 vunit a0] = some (sl 2 vunit v54, (accO (a0.getD []))) := N18 h55
    obtain ⟨v56, h57, h⟩ := obind_some h
    have wh57 : callIso prP (X prP) 56 [sl 2 vunit v54] = some (.tup [sl 2 vpair v56.1, .int .i64 v56.2.1, .int .i64 v56.2.2], false) := N56 h57
    obtain ⟨v58, h59, h⟩ := obind_some h
    obtain ⟨v60, h61, h⟩ := obind_some h
    have wh61 : callIso prP (X prP) 66 [sl 2 vunit v54, sl 2 vpair v58] = some (.tup [.int .i64 v60.1, .int .i64 v60.2], false) := N66 h61
    obtain ⟨v62, h63, h⟩ := obind_some h
    have wh63 : callIso prP (X prP) 57 [sl 2 vunit v54] = some (.tup [.int .i64 v62.1, .int .i64 v62.2], false) := N57 h63
    obtain ⟨v64, h65, h⟩ := obind_some h
    have wh65 : callIso prP (X prP) 67 [.agg [.str [], .list true 0 []], .agg [.str [], .list true 0 []]] = some (.int .i64 v64, false) := N67 h65
    obtain ⟨v66, h67, h⟩ := obind_some h
    have wh67 : callIso prP (X prP) 22 [sl 2 vunit a0] = some (.int .i64 v66, false) := N22 h67
    obtain ⟨v68, h69, h⟩ := obind_some h
    obtain ⟨v70, h71, h⟩ := obind_some h
    have wh71 : callIso prP (X prP) 24 [.bool (!decide (v68 = 0)), .int .i64 35] = some (.int .i64 v70, false) := N24 h71
    obtain ⟨v72, h73, h⟩ := obind_some h
    have wh73 : callIso prP (X prP) 24 [.bool (decide (8 < ((a0.getD []).length : Int))), .int .i64 23] = some (.int .i64 v72, false) := N24 h73
    obtain ⟨v74, h75, h⟩ := obind_some h
    have wh75 : callIso prP (X prP) 21 [.list false 1 [.int .i64 v66, .int .i64 v70, .int .i64 v72]] = some (.int .i64 v74, false) := N21 h75
    obtain ⟨v76, h77, h⟩ := obind_some h
    have wh77 : callIso prP (X prP) 24 [.bool (decide (((a0.getD []).length : Int) = 0)), .int .i64 12] = some (.int .i64 v76, false) := N24 h77
    obtain ⟨v78, h79, h⟩ := obind_some h
    have wh79 : callIso prP (X prP) 21 [.list false 1 [.int .i64 v66, .int .i64 v76]] = some (.int .i64 v78, false) := N21 h79
    obtain ⟨hh, hk⟩ := J10_14 h
    refine ⟨hh, ?_⟩
    simp only [go_sem, seval, c10_c3, c10_k4, h13, wh51, wh53, wh55, wh57, app_lit_O h59, wh61, wh63, wh65, wh67, b_rem_O h69, wh71, wh73, wh75, wh77, wh79]
    exact hk
noncomputable def f10 (a0 : Option (List GUnit)) (a1 : Option (List GPair)) : Option Bool :=
  obind (E14) fun v1 =>
  cond v1
   (obind (E15 a0 6) fun v4 =>
    cond v4
     (cond (decide (8 < ((a1.getD []).length : Int)))
       (some v1)
       (j10_3 a0 a1))
     (cond (decide (((a0.getD []).length : Int) = 10))
       (obind (E15 a0 10) fun v9 =>
        cond v9
         (cond (decide (8 < ((a1.getD []).length : Int)))
           (some v1)
           (j10_3 a0 a1))
         (some v1))
       (some v1)))
   (some v1)
theorem W10 {a0 : Option (List GUnit)} {a1 : Option (List GPair)} {r} (h : f10 a0 a1 = some r) : callIso prP (X prP) 10 [sl 2 vunit a0, sl 2 vpair a1] = some (.bool r, false) := by
  unfold f10 at h
  obtain ⟨v1, h2, h⟩ := obind_some h
  have wh2 : callIso prP (X prP) 14 [] = some (.bool v1, false) := N14 h2
  rcases cond_split h with ⟨h3, h⟩ | ⟨h3, h⟩
  · obtain ⟨v4, h5, h⟩ := obind_some h
    have wh5 : callIso prP (X prP) 15 [sl 2 vunit a0, .int .i64 6] = some (.bool v4, false) := N15 h5
    rcases cond_split h with ⟨h6, h⟩ | ⟨h6, h⟩
    · rcases cond_split h with ⟨h7, h⟩ | ⟨h7, h⟩
      · have hr : v1 = r := Option.some.inj h
        subst hr
        have this : ∃ hh, callFn prP (X prP) 10 [sl 2 vunit a0, sl 2 vpair a1] [] = some (.bool v1, false, hh) := by
          rw [callFn_at (show prP.fns 10 = some c10 from rfl) (by simp)]
          simp only [go_sem, seval, c10, wh2, h3, wh5, h6, h7]
          exact ⟨_, rfl⟩
        obtain ⟨hh, this⟩ := this
        exact callIso_of rfl this (by first | rfl | simp only [go_sem, seval]) (by first | rfl | simp only [go_sem, seval])
      · obtain ⟨hh, hk⟩ := J10_3 h
        have this : callFn prP (X prP) 10 [sl 2 vunit a0, sl 2 vpair a1] [] = some (.bool r, false, hh) := by
          rw [callFn_at (show prP.fns 10 = some c10 from rfl) (by simp)]
          simp only [go_sem, seval, c10, wh2, h3, wh5, h6, h7]
          rw [hk]
          rfl
        exact callIso_of rfl this (by first | rfl | simp only [go_sem, seval]) (by first | rfl | simp only [go_sem, seval])
    · rcases cond_split h with ⟨h8, h⟩ | ⟨h8, h⟩
      · obtain ⟨v9, h10, h⟩ := obind_some h
        have wh10 : callIso prP (X prP) 15 [sl 2 vunit a0, .int .i64 10] = some (.bool v9, false) := N15 h10
        rcases cond_split h with ⟨h11, h⟩ | ⟨h11, h⟩
        · rcases cond_split h with ⟨h12, h⟩ | ⟨h12, h⟩
          · have hr : v1 = r := Option.some.inj h
            subst hr
            have this : ∃ hh, callFn prP (X prP) 10 [sl 2 vunit a0, sl 2 vpair a1] [] = some (.bool v1, false, hh) := by
              rw [callFn_at (show prP.fns 10 = some c10 from rfl) (by simp)]
              simp only [go_sem, seval, c10, wh2, h3, wh5, h6, h8, wh10, h11, h12]
              exact ⟨_, rfl⟩
            obtain ⟨hh, this⟩ := this
            exact callIso_of rfl this (by first | rfl | simp only [go_sem, seval]) (by first | rfl | simp only [go_sem, seval])
          · obtain ⟨hh, hk⟩ := J10_3 h
            have this : callFn prP (X prP) 10 [sl 2 vunit a0, sl 2 vpair a1] [] = some (.bool r, false, hh) := by
              rw [callFn_at (show prP.fns 10 = some c10 from rfl) (by simp)]
              simp only [go_sem, seval, c10, wh2, h3, wh5, h6, h8, wh10, h11, h12]
              rw [hk]
              rfl
            exact callIso_of rfl this (by first | rfl | simp only [go_sem, seval]) (by first | rfl | simp only [go_sem, seval])
        · have hr : v1 = r := Option.some.inj h
          subst hr
          have this : ∃ hh, callFn prP (X prP) 10 [sl 2 vunit a0, sl 2 vpair a1] [] = some (.bool v1, false, hh) := by
            rw [callFn_at (show prP.fns 10 = some c10 from rfl) (by simp)]
            simp only [go_sem, seval, c10, wh2, h3, wh5, h6, h8, wh10, h11]
            exact ⟨_, rfl⟩
          obtain ⟨hh, this⟩ := this
          exact callIso_of rfl this (by first | rfl | simp only [go_sem, seval]) (by first | rfl | simp only [go_sem, seval])
      · have hr : v1 = r := Option.some.inj h
        subst hr
        have this : ∃ hh, callFn prP (X prP) 10 [sl 2 vunit a0, sl 2 vpair a1] [] = some (.bool v1, false, hh) := by
          rw [callFn_at (show prP.fns 10 = some c10 from rfl) (by simp)]
          simp only [go_sem, seval, c10, wh2, h3, wh5, h6, h8]
          exact ⟨_, rfl⟩
        obtain ⟨hh, this⟩ := this
        exact callIso_of rfl this (by first | rfl | simp only [go_sem, seval]) (by first | rfl | simp only [go_sem, seval])
  · have hr : v1 = r := Option.some.inj h
    subst hr
    have this : ∃ hh, callFn prP (X prP) 10 [sl 2 vunit a0, sl 2 vpair a1] [] = some (.bool v1, false, hh) := by
      rw [callFn_at (show prP.fns 10 = some c10 from rfl) (by simp)]
      simp only [go_sem, seval, c10, wh2, h3]
      exact ⟨_, rfl⟩
    obtain ⟨hh, this⟩ := this
    exact callIso_of rfl this (by first | rfl | simp only [go_sem, seval]) (by first | rfl | simp only [go_sem, seval])
end Go.Z
