/-
  TopConeSorted: the law: a function that mirrors the run, and the run (printed by walk.py).
-/
import Derived.Test.YtbjckbpblomblaaV4
import Derived.Test.YtbjckbpblomblaaR5
import Derived.Test.YtbjckbpblomblaaR3
import Derived.Test.YtbjckbpblomblaaB1
import Derived.Test.YtbjckbpblomblaaU1
import Derived.Test.YtbjckbpblomblaaG0m
set_option linter.unusedVariables false
set_option linter.unusedSimpArgs false
set_option maxRecDepth 100000
set_option maxHeartbeats 4000000
namespace Go.Z
open Go Go.Abs
theorem app_vunit_N {b:Nat} {h:Heap} {bb:Bool} {x:GUnit} {o v:Option (List GUnit)} (hv:apO o [x]=some v) (hn:o.isNone=true):appR 2 b h none (some (sl 2 vunit o)) (some (.list bb 2 [.agg [.str x.serial,sl 1 vint x.values]]))=ifR (decide (b≤4096)) (some ⟨sl 2 vunit v,true,none,h⟩):=app_none (x:=x) (by omega) rfl hn hv
noncomputable def s3_0 (a0:Option (List GUnit)) (a1:Int) (s0:(Option (List GUnit)) × (Option (List GUnit)) × (Option (List Int)) × Int × Bool × Bool × Bool):Option (((Option (List GUnit)) × (Option (List GUnit)) × (Option (List Int)) × Int × Bool × Bool × Bool) ⊕ ((Bool × (List UInt8) × (Option (List Int))) ⊕ ((Option (List GUnit)) × Bool × (Option (List GUnit)) × Bool × (Option (List Int)) × Bool × Int))):=
 cond (decide (s0.2.2.2.1 < ((a0.getD []).length:Int)))
  (obind (idxO (a0.getD []) s0.2.2.2.1) fun v85=>
  cond (decide (((v85.values.getD []).length:Int)=1))
   (obind (idxO (v85.values.getD []) 0) fun v88=>
   cond (decide (90000 < v88))
    (obind (E5) fun v91=>
    some (.inr (.inl (v91,v85.serial,v85.values))))
    (cond (decide (v88 < (-90000)))
     (obind (E5) fun v94=>
     some (.inr (.inl (v94,v85.serial,v85.values))))
     (obind (apO (some []) (v85.values.getD [])) fun v96=>
     cond s0.2.2.2.2.1
      (obind (apO s0.1 [⟨v85.serial,v96⟩]) fun v99=>
      cond s0.2.2.2.2.2.1
       (obind (apO s0.2.1 [⟨v85.serial,some [wrapF .i64 (v88 + (wrapF .i64 a1))]⟩]) fun v102=>
       cond s0.2.2.2.2.2.2
        (obind (apO s0.2.2.1 [v88]) fun v105=>
        some (.inl (v99,v102,v105,wrapF .i64 (s0.2.2.2.1 + 1),true,true,true)))
        (cond s0.2.2.1.isNone
         (obind (apO s0.2.2.1 [v88]) fun v108=>
         some (.inl (v99,v102,v108,wrapF .i64 (s0.2.2.2.1 + 1),true,true,true)))
         (none)))
       (cond s0.2.1.isNone
        (obind (apO s0.2.1 [⟨v85.serial,some [wrapF .i64 (v88 + (wrapF .i64 a1))]⟩]) fun v111=>
        cond s0.2.2.2.2.2.2
         (obind (apO s0.2.2.1 [v88]) fun v114=>
         some (.inl (v99,v111,v114,wrapF .i64 (s0.2.2.2.1 + 1),true,true,true)))
         (cond s0.2.2.1.isNone
          (obind (apO s0.2.2.1 [v88]) fun v117=>
          some (.inl (v99,v111,v117,wrapF .i64 (s0.2.2.2.1 + 1),true,true,true)))
          (none)))
        (none)))
      (cond s0.1.isNone
       (obind (apO s0.1 [⟨v85.serial,v96⟩]) fun v120=>
       cond s0.2.2.2.2.2.1
        (obind (apO s0.2.1 [⟨v85.serial,some [wrapF .i64 (v88 + (wrapF .i64 a1))]⟩]) fun v123=>
        cond s0.2.2.2.2.2.2
         (obind (apO s0.2.2.1 [v88]) fun v126=>
         some (.inl (v120,v123,v126,wrapF .i64 (s0.2.2.2.1 + 1),true,true,true)))
         (cond s0.2.2.1.isNone
          (obind (apO s0.2.2.1 [v88]) fun v129=>
          some (.inl (v120,v123,v129,wrapF .i64 (s0.2.2.2.1 + 1),true,true,true)))
          (none)))
        (cond s0.2.1.isNone
         (obind (apO s0.2.1 [⟨v85.serial,some [wrapF .i64 (v88 + (wrapF .i64 a1))]⟩]) fun v132=>
         cond s0.2.2.2.2.2.2
          (obind (apO s0.2.2.1 [v88]) fun v135=>
          some (.inl (v120,v132,v135,wrapF .i64 (s0.2.2.2.1 + 1),true,true,true)))
          (cond s0.2.2.1.isNone
           (obind (apO s0.2.2.1 [v88]) fun v138=>
           some (.inl (v120,v132,v138,wrapF .i64 (s0.2.2.2.1 + 1),true,true,true)))
           (none)))
         (none)))
       (none)))))
   (obind (E5) fun v140=>
   some (.inr (.inl (v140,v85.serial,v85.values)))))
  (some (.inr (.inr (s0.1,s0.2.2.2.2.1,s0.2.1,s0.2.2.2.2.2.1,s0.2.2.1,s0.2.2.2.2.2.2,s0.2.2.2.1))))
def St3_0 (a0:Option (List GUnit)) (a1:Int) (s0:(Option (List GUnit)) × (Option (List GUnit)) × (Option (List Int)) × Int × Bool × Bool × Bool):ASt:=⟨[(1,.int .u8 a1,false),(5,sl 2 vunit s0.1,s0.2.2.2.2.1),(6,sl 2 vunit s0.2.1,s0.2.2.2.2.2.1),(7,sl 1 vint s0.2.2.1,s0.2.2.2.2.2.2),(40,sl 2 vunit a0,false),(41,.int .i64 ((a0.getD []).length:Int),false),(42,.int .i64 s0.2.2.2.1,false)],[]⟩
def Ex3_0 (a0:Option (List GUnit)) (a1:Int):(Bool × (List UInt8) × (Option (List Int))) ⊕ ((Option (List GUnit)) × Bool × (Option (List GUnit)) × Bool × (Option (List Int)) × Bool × Int)→AExit × ASt
 | .inl d=>(.ret,⟨[(4,.bool d.1,false)],[.cells [(.str d.2.1,false),(sl 1 vint d.2.2,false)]]⟩)
 | .inr d=>(.exit 0,⟨[(1,.int .u8 a1,false),(5,sl 2 vunit d.1,d.2.1),(6,sl 2 vunit d.2.2.1,d.2.2.2.1),(7,sl 1 vint d.2.2.2.2.1,d.2.2.2.2.2.1),(40,sl 2 vunit a0,false),(41,.int .i64 ((a0.getD []).length:Int),false),(42,.int .i64 d.2.2.2.2.2.2,false),(43,.bool false,false)],[]⟩)
theorem b3_0 (a0:Option (List GUnit)) (a1:Int) (s0:(Option (List GUnit)) × (Option (List GUnit)) × (Option (List Int)) × Int × Bool × Bool × Bool) (r) (h:s3_0 a0 a1 s0=some r):stepO pr c3_0 (St3_0 a0 a1) (Ex3_0 a0 a1) s0 r:=by
 unfold s3_0 at h
 rcases cond_split h with ⟨h84,h⟩ | ⟨h84,h⟩
 ·obtain ⟨v85,h86,h⟩:=obind_some h
  rcases cond_split h with ⟨h87,h⟩ | ⟨h87,h⟩
  ·obtain ⟨v88,h89,h⟩:=obind_some h
   rcases cond_split h with ⟨h90,h⟩ | ⟨h90,h⟩
   ·obtain ⟨v91,h92,h⟩:=obind_some h
    have wh92:callIso pr (X pr) 5 []=some (.bool v91,false):=WE5 h92
    cases h
    exact stepO_out (by simp only [go_sem,seval,c3_0,St3_0,h84,idxR_O h86,h87,idxR_O h89,h90,wh92,Ex3_0] <;> rfl)
   ·rcases cond_split h with ⟨h93,h⟩ | ⟨h93,h⟩
    ·obtain ⟨v94,h95,h⟩:=obind_some h
     have wh95:callIso pr (X pr) 5 []=some (.bool v94,false):=WE5 h95
     cases h
     exact stepO_out (by simp only [go_sem,seval,c3_0,St3_0,h84,idxR_O h86,h87,idxR_O h89,h90,h93,wh95,Ex3_0] <;> rfl)
    ·obtain ⟨v96,h97,h⟩:=obind_some h
     rcases cond_split h with ⟨h98,h⟩ | ⟨h98,h⟩
     ·obtain ⟨v99,h100,h⟩:=obind_some h
      rcases cond_split h with ⟨h101,h⟩ | ⟨h101,h⟩
      ·obtain ⟨v102,h103,h⟩:=obind_some h
       rcases cond_split h with ⟨h104,h⟩ | ⟨h104,h⟩
       ·obtain ⟨v105,h106,h⟩:=obind_some h
        cases h
        exact stepO_in (st':=⟨[(1,.int .u8 a1,false),(5,sl 2 vunit v99,true),(6,sl 2 vunit v102,true),(7,sl 1 vint v105,true),(40,sl 2 vunit a0,false),(41,.int .i64 ((a0.getD []).length:Int),false),(42,.int .i64 (wrapF .i64 (s0.2.2.2.1 + 1)),false)],[]++[.cells [(.str v85.serial,false),(sl 1 vint v85.values,false)]]⟩) (by simp only [go_sem,seval,c3_0,St3_0,h84,idxR_O h86,h87,idxR_O h89,h90,h93,app_lit_O h97,h98,app_vunit_O h100,h101,(show ∀ (b t:Nat) (hq:Heap) (bb:Bool),appR 2 b hq (some t) (some (sl 2 vunit s0.2.1)) (some (.list bb 2 [.agg [.str v85.serial,.list false 1 [.int .i64 (wrapF .i64 (v88 + (wrapF .i64 a1)))]]]))=ifR (decide (b≤4096)) (some ⟨sl 2 vunit v102,true,(some t),hq⟩) from fun _ _ _ _=>app_vunit_O h103),h104,app_vint_O h106] <;> rfl) (gc_over rfl rfl (by first | simp only [go_sem,seval,St3_0] | rfl) (by first | simp only [go_sem,seval,St3_0] | rfl))
       ·rcases cond_split h with ⟨h107,h⟩ | ⟨h107,h⟩
        ·obtain ⟨v108,h109,h⟩:=obind_some h
         cases h
         exact stepO_in (st':=⟨[(1,.int .u8 a1,false),(5,sl 2 vunit v99,true),(6,sl 2 vunit v102,true),(7,sl 1 vint v108,true),(40,sl 2 vunit a0,false),(41,.int .i64 ((a0.getD []).length:Int),false),(42,.int .i64 (wrapF .i64 (s0.2.2.2.1 + 1)),false)],[]++[.cells [(.str v85.serial,false),(sl 1 vint v85.values,false)]]⟩) (by simp only [go_sem,seval,c3_0,St3_0,h84,idxR_O h86,h87,idxR_O h89,h90,h93,app_lit_O h97,h98,app_vunit_O h100,h101,(show ∀ (b t:Nat) (hq:Heap) (bb:Bool),appR 2 b hq (some t) (some (sl 2 vunit s0.2.1)) (some (.list bb 2 [.agg [.str v85.serial,.list false 1 [.int .i64 (wrapF .i64 (v88 + (wrapF .i64 a1)))]]]))=ifR (decide (b≤4096)) (some ⟨sl 2 vunit v102,true,(some t),hq⟩) from fun _ _ _ _=>app_vunit_O h103),h104,h107,app_vint_N h109 h107] <;> rfl) (gc_over rfl rfl (by first | simp only [go_sem,seval,St3_0] | rfl) (by first | simp only [go_sem,seval,St3_0] | rfl))
        ·cases h
      ·rcases cond_split h with ⟨h110,h⟩ | ⟨h110,h⟩
       ·obtain ⟨v111,h112,h⟩:=obind_some h
        rcases cond_split h with ⟨h113,h⟩ | ⟨h113,h⟩
        ·obtain ⟨v114,h115,h⟩:=obind_some h
         cases h
         exact stepO_in (st':=⟨[(1,.int .u8 a1,false),(5,sl 2 vunit v99,true),(6,sl 2 vunit v111,true),(7,sl 1 vint v114,true),(40,sl 2 vunit a0,false),(41,.int .i64 ((a0.getD []).length:Int),false),(42,.int .i64 (wrapF .i64 (s0.2.2.2.1 + 1)),false)],[]++[.cells [(.str v85.serial,false),(sl 1 vint v85.values,false)]]⟩) (by simp only [go_sem,seval,c3_0,St3_0,h84,idxR_O h86,h87,idxR_O h89,h90,h93,app_lit_O h97,h98,app_vunit_O h100,h101,h110,(show ∀ (b:Nat) (hq:Heap) (bb:Bool),appR 2 b hq none (some (sl 2 vunit s0.2.1)) (some (.list bb 2 [.agg [.str v85.serial,.list false 1 [.int .i64 (wrapF .i64 (v88 + (wrapF .i64 a1)))]]]))=ifR (decide (b≤4096)) (some ⟨sl 2 vunit v111,true,none,hq⟩) from fun _ _ _=>app_vunit_N h112 h110),h113,app_vint_O h115] <;> rfl) (gc_over rfl rfl (by first | simp only [go_sem,seval,St3_0] | rfl) (by first | simp only [go_sem,seval,St3_0] | rfl))
        ·rcases cond_split h with ⟨h116,h⟩ | ⟨h116,h⟩
         ·obtain ⟨v117,h118,h⟩:=obind_some h
          cases h
          exact stepO_in (st':=⟨[(1,.int .u8 a1,false),(5,sl 2 vunit v99,true),(6,sl 2 vunit v111,true),(7,sl 1 vint v117,true),(40,sl 2 vunit a0,false),(41,.int .i64 ((a0.getD []).length:Int),false),(42,.int .i64 (wrapF .i64 (s0.2.2.2.1 + 1)),false)],[]++[.cells [(.str v85.serial,false),(sl 1 vint v85.values,false)]]⟩) (by simp only [go_sem,seval,c3_0,St3_0,h84,idxR_O h86,h87,idxR_O h89,h90,h93,app_lit_O h97,h98,app_vunit_O h100,h101,h110,(show ∀ (b:Nat) (hq:Heap) (bb:Bool),appR 2 b hq none (some (sl 2 vunit s0.2.1)) (some (.list bb 2 [.agg [.str v85.serial,.list false 1 [.int .i64 (wrapF .i64 (v88 + (wrapF .i64 a1)))]]]))=ifR (decide (b≤4096)) (some ⟨sl 2 vunit v111,true,none,hq⟩) from fun _ _ _=>app_vunit_N h112 h110),h113,h116,app_vint_N h118 h116] <;> rfl) (gc_over rfl rfl (by first | simp only [go_sem,seval,St3_0] | rfl) (by first | simp only [go_sem,seval,St3_0] | rfl))
         ·cases h
       ·cases h
     ·rcases cond_split h with ⟨h119,h⟩ | ⟨h119,h⟩
      ·obtain ⟨v120,h121,h⟩:=obind_some h
       rcases cond_split h with ⟨h122,h⟩ | ⟨h122,h⟩
       ·obtain ⟨v123,h124,h⟩:=obind_some h
        rcases cond_split h with ⟨h125,h⟩ | ⟨h125,h⟩
        ·obtain ⟨v126,h127,h⟩:=obind_some h
         cases h
         exact stepO_in (st':=⟨[(1,.int .u8 a1,false),(5,sl 2 vunit v120,true),(6,sl 2 vunit v123,true),(7,sl 1 vint v126,true),(40,sl 2 vunit a0,false),(41,.int .i64 ((a0.getD []).length:Int),false),(42,.int .i64 (wrapF .i64 (s0.2.2.2.1 + 1)),false)],[]++[.cells [(.str v85.serial,false),(sl 1 vint v85.values,false)]]⟩) (by simp only [go_sem,seval,c3_0,St3_0,h84,idxR_O h86,h87,idxR_O h89,h90,h93,app_lit_O h97,h98,h119,app_vunit_N h121 h119,h122,(show ∀ (b t:Nat) (hq:Heap) (bb:Bool),appR 2 b hq (some t) (some (sl 2 vunit s0.2.1)) (some (.list bb 2 [.agg [.str v85.serial,.list false 1 [.int .i64 (wrapF .i64 (v88 + (wrapF .i64 a1)))]]]))=ifR (decide (b≤4096)) (some ⟨sl 2 vunit v123,true,(some t),hq⟩) from fun _ _ _ _=>app_vunit_O h124),h125,app_vint_O h127] <;> rfl) (gc_over rfl rfl (by first | simp only [go_sem,seval,St3_0] | rfl) (by first | simp only [go_sem,seval,St3_0] | rfl))
        ·rcases cond_split h with ⟨h128,h⟩ | ⟨h128,h⟩
         ·obtain ⟨v129,h130,h⟩:=obind_some h
          cases h
          exact stepO_in (st':=⟨[(1,.int .u8 a1,false),(5,sl 2 vunit v120,true),(6,sl 2 vunit v123,true),(7,sl 1 vint v129,true),(40,sl 2 vunit a0,false),(41,.int .i64 ((a0.getD []).length:Int),false),(42,.int .i64 (wrapF .i64 (s0.2.2.2.1 + 1)),false)],[]++[.cells [(.str v85.serial,false),(sl 1 vint v85.values,false)]]⟩) (by simp only [go_sem,seval,c3_0,St3_0,h84,idxR_O h86,h87,idxR_O h89,h90,h93,app_lit_O h97,h98,h119,app_vunit_N h121 h119,h122,(show ∀ (b t:Nat) (hq:Heap) (bb:Bool),appR 2 b hq (some t) (some (sl 2 vunit s0.2.1)) (some (.list bb 2 [.agg [.str v85.serial,.list false 1 [.int .i64 (wrapF .i64 (v88 + (wrapF .i64 a1)))]]]))=ifR (decide (b≤4096)) (some ⟨sl 2 vunit v123,true,(some t),hq⟩) from fun _ _ _ _=>app_vunit_O h124),h125,h128,app_vint_N h130 h128] <;> rfl) (gc_over rfl rfl (by first | simp only [go_sem,seval,St3_0] | rfl) (by first | simp only [go_sem,seval,St3_0] | rfl))
         ·cases h
       ·rcases cond_split h with ⟨h131,h⟩ | ⟨h131,h⟩
        ·obtain ⟨v132,h133,h⟩:=obind_some h
         rcases cond_split h with ⟨h134,h⟩ | ⟨h134,h⟩
         ·obtain ⟨v135,h136,h⟩:=obind_some h
          cases h
          exact stepO_in (st':=⟨[(1,.int .u8 a1,false),(5,sl 2 vunit v120,true),(6,sl 2 vunit v132,true),(7,sl 1 vint v135,true),(40,sl 2 vunit a0,false),(41,.int .i64 ((a0.getD []).length:Int),false),(42,.int .i64 (wrapF .i64 (s0.2.2.2.1 + 1)),false)],[]++[.cells [(.str v85.serial,false),(sl 1 vint v85.values,false)]]⟩) (by simp only [go_sem,seval,c3_0,St3_0,h84,idxR_O h86,h87,idxR_O h89,h90,h93,app_lit_O h97,h98,h119,app_vunit_N h121 h119,h122,h131,(show ∀ (b:Nat) (hq:Heap) (bb:Bool),appR 2 b hq none (some (sl 2 vunit s0.2.1)) (some (.list bb 2 [.agg [.str v85.serial,.list false 1 [.int .i64 (wrapF .i64 (v88 + (wrapF .i64 a1)))]]]))=ifR (decide (b≤4096)) (some ⟨sl 2 vunit v132,true,none,hq⟩) from fun _ _ _=>app_vunit_N h133 h131),h134,app_vint_O h136] <;> rfl) (gc_over rfl rfl (by first | simp only [go_sem,seval,St3_0] | rfl) (by first | simp only [go_sem,seval,St3_0] | rfl))
         ·rcases cond_split h with ⟨h137,h⟩ | ⟨h137,h⟩
          ·obtain ⟨v138,h139,h⟩:=obind_some h
           cases h
           exact stepO_in (st':=⟨[(1,.int .u8 a1,false),(5,sl 2 vunit v120,true),(6,sl 2 vunit v132,true),(7,sl 1 vint v138,true),(40,sl 2 vunit a0,false),(41,.int .i64 ((a0.getD []).length:Int),false),(42,.int .i64 (wrapF .i64 (s0.2.2.2.1 + 1)),false)],[]++[.cells [(.str v85.serial,false),(sl 1 vint v85.values,false)]]⟩) (by simp only [go_sem,seval,c3_0,St3_0,h84,idxR_O h86,h87,idxR_O h89,h90,h93,app_lit_O h97,h98,h119,app_vunit_N h121 h119,h122,h131,(show ∀ (b:Nat) (hq:Heap) (bb:Bool),appR 2 b hq none (some (sl 2 vunit s0.2.1)) (some (.list bb 2 [.agg [.str v85.serial,.list false 1 [.int .i64 (wrapF .i64 (v88 + (wrapF .i64 a1)))]]]))=ifR (decide (b≤4096)) (some ⟨sl 2 vunit v132,true,none,hq⟩) from fun _ _ _=>app_vunit_N h133 h131),h134,h137,app_vint_N h139 h137] <;> rfl) (gc_over rfl rfl (by first | simp only [go_sem,seval,St3_0] | rfl) (by first | simp only [go_sem,seval,St3_0] | rfl))
          ·cases h
        ·cases h
      ·cases h
  ·obtain ⟨v140,h141,h⟩:=obind_some h
   have wh141:callIso pr (X pr) 5 []=some (.bool v140,false):=WE5 h141
   cases h
   exact stepO_out (by simp only [go_sem,seval,c3_0,St3_0,h84,idxR_O h86,h87,wh141,Ex3_0] <;> rfl)
 ·cases h
  exact stepO_out (by simp only [go_sem,seval,c3_0,St3_0,h84,Ex3_0] <;> rfl)
theorem l3_0 (a0:Option (List GUnit)) (a1:Int) {s0:(Option (List GUnit)) × (Option (List GUnit)) × (Option (List Int)) × Int × Bool × Bool × Bool} {d} (h:itO (s3_0 a0 a1) s0=some d):X pr (.loop c3_0) (St3_0 a0 a1 s0)=some (Ex3_0 a0 a1 d):=X_itO (b3_0 a0 a1) (fun d=>by rcases d with d|d <;> (intro hh; cases hh)) h
noncomputable def s3_1 (d145:(Option (List GUnit)) × Bool × (Option (List GUnit)) × Bool × (Option (List Int)) × Bool × Int) (v146:Option (List Int)) (s1:Int × Int):Option ((Int × Int) ⊕ ((Int × Int))):=
 cond (decide ((wrapF .i64 (s1.2 + 1)) < ((v146.getD []).length:Int)))
  (obind (idxO (v146.getD []) s1.2) fun v159=>
  obind (idxO (v146.getD []) (wrapF .i64 (s1.2 + 1))) fun v161=>
  some (.inl (max s1.1 (wrapF .i64 (v159 - v161)),wrapF .i64 (s1.2 + 2))))
  (some (.inr (s1.1,s1.2)))
def St3_1 (d145:(Option (List GUnit)) × Bool × (Option (List GUnit)) × Bool × (Option (List Int)) × Bool × Int) (v146:Option (List Int)) (s1:Int × Int):ASt:=⟨[(5,sl 2 vunit d145.1,d145.2.1),(6,sl 2 vunit d145.2.2.1,d145.2.2.2.1),(7,sl 1 vint v146,false),(10,.int .i64 s1.1,false),(11,.int .i64 s1.2,false)],[]⟩
def Ex3_1 (d145:(Option (List GUnit)) × Bool × (Option (List GUnit)) × Bool × (Option (List Int)) × Bool × Int) (v146:Option (List Int)) (d:(Int × Int)):AExit × ASt:=(.exit 2,⟨[(5,sl 2 vunit d145.1,d145.2.1),(6,sl 2 vunit d145.2.2.1,d145.2.2.2.1),(7,sl 1 vint v146,false),(10,.int .i64 d.1,false),(11,.int .i64 d.2,false),(103,.bool false,false)],[]⟩)
theorem b3_1 (d145:(Option (List GUnit)) × Bool × (Option (List GUnit)) × Bool × (Option (List Int)) × Bool × Int) (v146:Option (List Int)) (s1:Int × Int) (r) (h:s3_1 d145 v146 s1=some r):stepO pr c3_1 (St3_1 d145 v146) (Ex3_1 d145 v146) s1 r:=by
 unfold s3_1 at h
 rcases cond_split h with ⟨h158,h⟩ | ⟨h158,h⟩
 ·obtain ⟨v159,h160,h⟩:=obind_some h
  obtain ⟨v161,h162,h⟩:=obind_some h
  cases h
  exact stepO_in (st':=⟨[(5,sl 2 vunit d145.1,d145.2.1),(6,sl 2 vunit d145.2.2.1,d145.2.2.2.1),(7,sl 1 vint v146,false),(10,.int .i64 (max s1.1 (wrapF .i64 (v159 - v161))),false),(11,.int .i64 (wrapF .i64 (s1.2 + 2)),false)],[]⟩) (by simp only [go_sem,seval,c3_1,St3_1,h158,idxR_O h160,idxR_O h162] <;> rfl) (gc_same (Nat.le_refl _))
 ·cases h
  exact stepO_out (by simp only [go_sem,seval,c3_1,St3_1,h158,Ex3_1] <;> rfl)
theorem l3_1 (d145:(Option (List GUnit)) × Bool × (Option (List GUnit)) × Bool × (Option (List Int)) × Bool × Int) (v146:Option (List Int)) {s1:Int × Int} {d} (h:itO (s3_1 d145 v146) s1=some d):X pr (.loop c3_1) (St3_1 d145 v146 s1)=some (Ex3_1 d145 v146 d):=X_itO (b3_1 d145 v146) (fun d hh=>by cases hh) h
noncomputable def j3_12 (a0:Option (List GUnit)) (a1:Int) (p5:Option (List GUnit)) (o5:Bool) (p10:Int) (p170:Bool):Option Bool:=
 cond p170
  (obind (E5) fun v183=>
  some v183)
  (obind (f10 p5 p10) fun v185=>
  obind (f11 p5 p10 none) fun v187=>
  obind (f10 p5 (wrapF .i64 (p10 + 1))) fun v189=>
  cond (decide (v185.2=0))
   (cond (decide (((v185.1.getD []).length:Int)=0))
    (cond (decide (v187=0))
     (cond (decide (v189.2=7))
      (obind (E5) fun v195=>
      some v195)
      (some false))
     (some false))
    (some false))
   (some false))
theorem J3_12 {a0:Option (List GUnit)} {a1:Int} {p5:Option (List GUnit)} {o5:Bool} {p10:Int} {p170:Bool} {r} (h:j3_12 a0 a1 p5 o5 p10 p170=some r):∃ hh,thenX (X pr c3_c12 ⟨[(5,sl 2 vunit p5,o5),(10,.int .i64 p10,false),(170,.bool p170,false)],[]⟩) (X pr c3_k13)=some (.ret,⟨[(4,.bool r,false)],hh⟩):=by
 unfold j3_12 at h
 rcases cond_split h with ⟨h182,h⟩ | ⟨h182,h⟩
 ·obtain ⟨v183,h184,h⟩:=obind_some h
  have wh184:callIso pr (X pr) 5 []=some (.bool v183,false):=WE5 h184
  have hr:v183=r:=Option.some.inj h
  subst hr
  refine ⟨[],?_⟩
  simp only [go_sem,seval,c3_c12,c3_k13,h182,wh184] <;> rfl
 ·obtain ⟨v185,h186,h⟩:=obind_some h
  have wh186:callIso pr (X pr) 10 [sl 2 vunit p5,.int .i64 p10]=some (.tup [sl 1 vint v185.1,.int .i64 v185.2],false):=W10 h186
  obtain ⟨v187,h188,h⟩:=obind_some h
  have wh188:callIso pr (X pr) 11 [sl 2 vunit p5,.int .i64 p10,.list true 0 []]=some (.int .i64 v187,false):=W11 h188
  obtain ⟨v189,h190,h⟩:=obind_some h
  have wh190:callIso pr (X pr) 10 [sl 2 vunit p5,.int .i64 (wrapF .i64 (p10 + 1))]=some (.tup [sl 1 vint v189.1,.int .i64 v189.2],false):=W10 h190
  rcases cond_split h with ⟨h191,h⟩ | ⟨h191,h⟩
  ·rcases cond_split h with ⟨h192,h⟩ | ⟨h192,h⟩
   ·rcases cond_split h with ⟨h193,h⟩ | ⟨h193,h⟩
    ·rcases cond_split h with ⟨h194,h⟩ | ⟨h194,h⟩
     ·obtain ⟨v195,h196,h⟩:=obind_some h
      have wh196:callIso pr (X pr) 5 []=some (.bool v195,false):=WE5 h196
      have hr:v195=r:=Option.some.inj h
      subst hr
      refine ⟨[],?_⟩
      simp only [go_sem,seval,c3_c12,c3_k13,h182,wh186,wh188,wh190,h191,h192,h193,h194,wh196] <;> rfl
     ·have hr:false=r:=Option.some.inj h
      subst hr
      refine ⟨[],?_⟩
      simp only [go_sem,seval,c3_c12,c3_k13,h182,wh186,wh188,wh190,h191,h192,h193,h194] <;> rfl
    ·have hr:false=r:=Option.some.inj h
     subst hr
     refine ⟨[],?_⟩
     simp only [go_sem,seval,c3_c12,c3_k13,h182,wh186,wh188,wh190,h191,h192,h193] <;> rfl
   ·have hr:false=r:=Option.some.inj h
    subst hr
    refine ⟨[],?_⟩
    simp only [go_sem,seval,c3_c12,c3_k13,h182,wh186,wh188,wh190,h191,h192] <;> rfl
  ·have hr:false=r:=Option.some.inj h
   subst hr
   refine ⟨[],?_⟩
   simp only [go_sem,seval,c3_c12,c3_k13,h182,wh186,wh188,wh190,h191] <;> rfl
noncomputable def j3_11 (a0:Option (List GUnit)) (a1:Int) (p5:Option (List GUnit)) (o5:Bool) (p10:Int) (p168:Bool):Option Bool:=
 cond p168
  (some false)
  (j3_12 a0 a1 p5 o5 p10 (decide (p10=0)))
theorem J3_11 {a0:Option (List GUnit)} {a1:Int} {p5:Option (List GUnit)} {o5:Bool} {p10:Int} {p168:Bool} {r} (h:j3_11 a0 a1 p5 o5 p10 p168=some r):∃ hh,thenX (X pr c3_c11 ⟨[(5,sl 2 vunit p5,o5),(10,.int .i64 p10,false),(168,.bool p168,false)],[]⟩) (X pr c3_k12)=some (.ret,⟨[(4,.bool r,false)],hh⟩):=by
 unfold j3_11 at h
 rcases cond_split h with ⟨h181,h⟩ | ⟨h181,h⟩
 ·have hr:false=r:=Option.some.inj h
  subst hr
  refine ⟨[],?_⟩
  simp only [go_sem,seval,c3_c11,c3_k12,h181] <;> rfl
 ·obtain ⟨hh,hk⟩:=J3_12 h
  refine ⟨hh,?_⟩
  simp only [go_sem,seval,c3_c11,c3_k12,h181]
  exact hk
noncomputable def j3_1 (a0:Option (List GUnit)) (a1:Int) (p38:Bool):Option Bool:=
 cond p38
  (obind (E5) fun v8=>
  some v8)
  (obind (itO (s3_0 a0 a1) (none,none,none,0,false,false,false)) fun d142=>match d142 with
   | .inl d144=>
    some d144.1
   | .inr d145=>
    obind (f6 d145.2.2.2.2.1) fun v146=>
    obind (itO (s3_1 d145 v146) (0,0)) fun d163=>
    obind (f7 d145.1) fun v165=>
    obind (f7 d145.2.2.1) fun v167=>
    obind (apO (some []) (v165.1.getD [])) fun v169=>
    obind (f8 d145.2.2.1 v169) fun v171=>
    cond (decide (v165.2.2=0))
     (cond (decide (v167.2.2=0))
      (cond (decide (v171.2=0))
       (cond (decide (v165.2.1=d163.1))
        (cond (decide (v167.2.1=d163.1))
         (cond (decide (v171.1=d163.1))
          (obind (f9 v165.1 v167.1) fun v179=>
          j3_11 a0 a1 d145.1 d145.2.1 d163.1 (!v179))
          (j3_11 a0 a1 d145.1 d145.2.1 d163.1 true))
         (j3_11 a0 a1 d145.1 d145.2.1 d163.1 true))
        (j3_11 a0 a1 d145.1 d145.2.1 d163.1 true))
       (j3_11 a0 a1 d145.1 d145.2.1 d163.1 true))
      (j3_11 a0 a1 d145.1 d145.2.1 d163.1 true))
     (j3_11 a0 a1 d145.1 d145.2.1 d163.1 true))
theorem J3_1 {a0:Option (List GUnit)} {a1:Int} {p38:Bool} {r} (h:j3_1 a0 a1 p38=some r):∃ hh,thenX (X pr c3_c1 ⟨[(0,sl 2 vunit a0,false),(1,.int .u8 a1,false),(38,.bool p38,false)],[]⟩) (X pr c3_k2)=some (.ret,⟨[(4,.bool r,false)],hh⟩):=by
 unfold j3_1 at h
 rcases cond_split h with ⟨h7,h⟩ | ⟨h7,h⟩
 ·obtain ⟨v8,h9,h⟩:=obind_some h
  have wh9:callIso pr (X pr) 5 []=some (.bool v8,false):=WE5 h9
  have hr:v8=r:=Option.some.inj h
  subst hr
  refine ⟨[],?_⟩
  simp only [go_sem,seval,c3_c1,c3_k2,h7,wh9] <;> rfl
 ·obtain ⟨d142,h143,h⟩:=obind_some h
  rcases d142 with d144 | d145
  ·have wh143:X pr (.loop c3_0) ⟨[(1,.int .u8 a1,false),(5,.list true 0 [],false),(6,.list true 0 [],false),(7,.list true 0 [],false),(40,sl 2 vunit a0,false),(41,.int .i64 ((a0.getD []).length:Int),false),(42,.int .i64 0,false)],[]⟩=some (.ret,⟨[(4,.bool d144.1,false)],[.cells [(.str d144.2.1,false),(sl 1 vint d144.2.2,false)]]⟩):=l3_0 a0 a1 h143
   have hr:d144.1=r:=Option.some.inj h
   subst hr
   refine ⟨[.cells [(.str d144.2.1,false),(sl 1 vint d144.2.2,false)]],?_⟩
   simp only [go_sem,seval,c3_c1,c3_k2,h7,wh143] <;> rfl
  ·have wh143:X pr (.loop c3_0) ⟨[(1,.int .u8 a1,false),(5,.list true 0 [],false),(6,.list true 0 [],false),(7,.list true 0 [],false),(40,sl 2 vunit a0,false),(41,.int .i64 ((a0.getD []).length:Int),false),(42,.int .i64 0,false)],[]⟩=some (.exit 0,⟨[(1,.int .u8 a1,false),(5,sl 2 vunit d145.1,d145.2.1),(6,sl 2 vunit d145.2.2.1,d145.2.2.2.1),(7,sl 1 vint d145.2.2.2.2.1,d145.2.2.2.2.2.1),(40,sl 2 vunit a0,false),(41,.int .i64 ((a0.getD []).length:Int),false),(42,.int .i64 d145.2.2.2.2.2.2,false),(43,.bool false,false)],[]⟩):=l3_0 a0 a1 h143
   obtain ⟨v146,h147,h⟩:=obind_some h
   have wh147:callIso pr (X pr) 6 [sl 1 vint d145.2.2.2.2.1]=some (sl 1 vint v146,false):=W6 h147
   obtain ⟨d163,h164,h⟩:=obind_some h
   have wh164:X pr (.loop c3_1) ⟨[(5,sl 2 vunit d145.1,d145.2.1),(6,sl 2 vunit d145.2.2.1,d145.2.2.2.1),(7,sl 1 vint v146,false),(10,.int .i64 0,false),(11,.int .i64 0,false)],[]⟩=some (.exit 2,⟨[(5,sl 2 vunit d145.1,d145.2.1),(6,sl 2 vunit d145.2.2.1,d145.2.2.2.1),(7,sl 1 vint v146,false),(10,.int .i64 d163.1,false),(11,.int .i64 d163.2,false),(103,.bool false,false)],[]⟩):=l3_1 d145 v146 h164
   obtain ⟨v165,h166,h⟩:=obind_some h
   have wh166:callIso pr (X pr) 7 [sl 2 vunit d145.1]=some (.tup [sl 2 vpair v165.1,.int .i64 v165.2.1,.int .i64 v165.2.2],false):=W7 h166
   obtain ⟨v167,h168,h⟩:=obind_some h
   have wh168:callIso pr (X pr) 7 [sl 2 vunit d145.2.2.1]=some (.tup [sl 2 vpair v167.1,.int .i64 v167.2.1,.int .i64 v167.2.2],false):=W7 h168
   obtain ⟨v169,h170,h⟩:=obind_some h
   obtain ⟨v171,h172,h⟩:=obind_some h
   have wh172:callIso pr (X pr) 8 [sl 2 vunit d145.2.2.1,sl 2 vpair v169]=some (.tup [.int .i64 v171.1,.int .i64 v171.2],false):=W8 h172
   rcases cond_split h with ⟨h173,h⟩ | ⟨h173,h⟩
   ·rcases cond_split h with ⟨h174,h⟩ | ⟨h174,h⟩
    ·rcases cond_split h with ⟨h175,h⟩ | ⟨h175,h⟩
     ·rcases cond_split h with ⟨h176,h⟩ | ⟨h176,h⟩
      ·rcases cond_split h with ⟨h177,h⟩ | ⟨h177,h⟩
       ·rcases cond_split h with ⟨h178,h⟩ | ⟨h178,h⟩
        ·obtain ⟨v179,h180,h⟩:=obind_some h
         have wh180:callIso pr (X pr) 9 [sl 2 vpair v165.1,sl 2 vpair v167.1]=some (.bool v179,false):=W9 h180
         obtain ⟨hh,hk⟩:=J3_11 h
         refine ⟨hh,?_⟩
         simp only [go_sem,seval,c3_c1,c3_k2,h7,wh143,wh147,wh164,wh166,wh168,app_lit_O h170,wh172,h173,h174,h175,h176,h177,h178,wh180]
         exact hk
        ·obtain ⟨hh,hk⟩:=J3_11 h
         refine ⟨hh,?_⟩
         simp only [go_sem,seval,c3_c1,c3_k2,h7,wh143,wh147,wh164,wh166,wh168,app_lit_O h170,wh172,h173,h174,h175,h176,h177,h178]
         exact hk
       ·obtain ⟨hh,hk⟩:=J3_11 h
        refine ⟨hh,?_⟩
        simp only [go_sem,seval,c3_c1,c3_k2,h7,wh143,wh147,wh164,wh166,wh168,app_lit_O h170,wh172,h173,h174,h175,h176,h177]
        exact hk
      ·obtain ⟨hh,hk⟩:=J3_11 h
       refine ⟨hh,?_⟩
       simp only [go_sem,seval,c3_c1,c3_k2,h7,wh143,wh147,wh164,wh166,wh168,app_lit_O h170,wh172,h173,h174,h175,h176]
       exact hk
     ·obtain ⟨hh,hk⟩:=J3_11 h
      refine ⟨hh,?_⟩
      simp only [go_sem,seval,c3_c1,c3_k2,h7,wh143,wh147,wh164,wh166,wh168,app_lit_O h170,wh172,h173,h174,h175]
      exact hk
    ·obtain ⟨hh,hk⟩:=J3_11 h
     refine ⟨hh,?_⟩
     simp only [go_sem,seval,c3_c1,c3_k2,h7,wh143,wh147,wh164,wh166,wh168,app_lit_O h170,wh172,h173,h174]
     exact hk
   ·obtain ⟨hh,hk⟩:=J3_11 h
    refine ⟨hh,?_⟩
    simp only [go_sem,seval,c3_c1,c3_k2,h7,wh143,wh147,wh164,wh166,wh168,app_lit_O h170,wh172,h173]
    exact hk
noncomputable def f3 (a0:Option (List GUnit)) (a1:Int):Option Bool:=
 cond (decide (8 < ((a0.getD []).length:Int)))
  (j3_1 a0 a1 true)
  (obind (remO ((a0.getD []).length:Int) 2) fun v2=>
  cond (decide (v2=0))
   (obind (E4w a0) fun v5=>
   j3_1 a0 a1 (!decide (v5=0)))
   (j3_1 a0 a1 true))
theorem W3 {a0:Option (List GUnit)} {a1:Int} {r} (h:f3 a0 a1=some r):callIso pr (X pr) 3 [sl 2 vunit a0,.int .u8 a1]=some (.bool r,false):=by
 unfold f3 at h
 rcases cond_split h with ⟨h1,h⟩ | ⟨h1,h⟩
 ·obtain ⟨hh,hk⟩:=J3_1 h
  have this:callFn pr (X pr) 3 [sl 2 vunit a0,.int .u8 a1] []=some (.bool r,false,hh):=by
   rw [callFn_at (show pr.fns 3=some c3 from rfl) (by simp)]
   simp only [go_sem,seval,c3,h1]
   rw [hk]
   rfl
  exact callIso_of rfl this (by first | rfl | simp only [go_sem,seval]) (by first | rfl | simp only [go_sem,seval])
 ·obtain ⟨v2,h3,h⟩:=obind_some h
  rcases cond_split h with ⟨h4,h⟩ | ⟨h4,h⟩
  ·obtain ⟨v5,h6,h⟩:=obind_some h
   have wh6:callIso pr (X pr) 4 [sl 2 vunit a0]=some (.int .i64 v5,false):=WE4w h6
   obtain ⟨hh,hk⟩:=J3_1 h
   have this:callFn pr (X pr) 3 [sl 2 vunit a0,.int .u8 a1] []=some (.bool r,false,hh):=by
    rw [callFn_at (show pr.fns 3=some c3 from rfl) (by simp)]
    simp only [go_sem,seval,c3,h1,b_rem_O h3,h4,wh6]
    rw [hk]
    rfl
   exact callIso_of rfl this (by first | rfl | simp only [go_sem,seval]) (by first | rfl | simp only [go_sem,seval])
  ·obtain ⟨hh,hk⟩:=J3_1 h
   have this:callFn pr (X pr) 3 [sl 2 vunit a0,.int .u8 a1] []=some (.bool r,false,hh):=by
    rw [callFn_at (show pr.fns 3=some c3 from rfl) (by simp)]
    simp only [go_sem,seval,c3,h1,b_rem_O h3,h4]
    rw [hk]
    rfl
   exact callIso_of rfl this (by first | rfl | simp only [go_sem,seval]) (by first | rfl | simp only [go_sem,seval])
end Go.Z
