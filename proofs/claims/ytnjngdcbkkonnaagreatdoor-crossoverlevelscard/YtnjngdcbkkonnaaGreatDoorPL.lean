/-
  CrossoverLevels returns true for every input, and each argument reads afterwards as it read before (the statement Rows.CrossoverLevelsSaid). No conditions.
-/
import Derived.Test.YtnjngdcbkkonnaaGreatDoorPS
import Derived.Test.YtnjngdcbkkonnaaGreatDoorPY
import Derived.Test.YtnjngdcbkkonnaaGreatDoorPC
set_option linter.unusedVariables false
set_option linter.unusedSimpArgs false
set_option maxRecDepth 100000
namespace Go.Z
open Go Go.Abs Go.Proofs
theorem map_of2 {α:Type} {f:α→AVal} {Q:α→Prop}:∀ {xs:List AVal},(∀ y∈xs,∃ a,y=f a∧Q a)→∃ l:List α,xs=l.map f∧∀ a∈l,Q a
 | [],_=>⟨[],rfl,by simp⟩
 | y::xs,h=>by
  obtain ⟨a,ha,hq⟩:=h y (List.mem_cons_self ..)
  obtain ⟨l,hl,hr⟩:=map_of2 (f:=f) (Q:=Q) (fun z hz=>h z (List.mem_cons_of_mem _ hz))
  exact ⟨a::l,by rw [ha,hl]; rfl,fun b hb=>by
   rcases List.mem_cons.1 hb with rfl | hb
   ·exact hq
   ·exact hr b hb⟩
def wf9 (x0:List UInt8):Prop:=x0.length≤maxLen
def wf3 (x0:Int):Prop:=(Lit.int .i64 x0).wf=true
def wf23 (x0:List UInt8) (x1:Int) (x2:Int):Prop:=wf9 x0∧wf3 x1∧wf3 x2
def wf25 (x0:List UInt8) (x1:List UInt8) (x2:Int) (x3:Int) (x4:Int) (x5:Int) (x6:Int) (x7:Int):Prop:=wf9 x0∧wf23 x1 x2 x3∧wf3 x4∧wf3 x5∧wf3 x6∧wf3 x7
def wf26 (x0:Option (List GPart)):Prop:=(x0.getD []).length≤maxLen∧∀ y∈x0.getD [],wf25 y.name y.kd y.pa y.pb y.sa y.sb y.cost y.stock
def wf48 (x0:Option (List Int)):Prop:=(x0.getD []).length≤maxLen∧∀ y∈x0.getD [],wf3 y
def wf53 (x0:Int) (x1:Int):Prop:=wf3 x0∧wf3 x1
def wf107 (x0:Int) (x1:Int) (x2:Int) (x3:Int) (x4:Int):Prop:=wf3 x0∧wf53 x1 x2∧wf53 x3 x4
def wf49 (x0:Option (List GBand)):Prop:=(x0.getD []).length≤maxLen∧∀ y∈x0.getD [],wf107 y.w y.ln y.ld y.mn y.md
def wf51 (x0:Option (List GPart)) (x1:Option (List Int)) (x2:Option (List GBand)):Prop:=wf26 x0∧wf48 x1∧wf49 x2
theorem rt9 {n:Nat} {cs:List AVal} (h:typedC Tryz.prog (n + 1) 9 cs):∃ (x0:List UInt8),cs=[.str x0]∧wf9 x0:=by
 simp only [typedC,Tryz.underlying9] at h
 exact h
theorem rt3 {n:Nat} {cs:List AVal} (h:typedC Tryz.prog (n + 1) 3 cs):∃ (x0:Int),cs=[.int .i64 x0]∧wf3 x0:=by
 simp only [typedC,Tryz.underlying3] at h
 exact h
theorem rt23 {n:Nat} {cs:List AVal} (h:typedC Tryz.prog (n + 2) 23 cs):∃ (x0:List UInt8) (x1:Int) (x2:Int),cs=[.str x0,.int .i64 x1,.int .i64 x2]∧wf23 x0 x1 x2:=by
 rw [typedC] at h
 simp only [Tryz.underlying23] at h
 obtain ⟨ys0,zs0,rfl,g0,k0⟩:=h
 obtain ⟨x0,rfl,w0⟩:=rt9 g0
 obtain ⟨ys1,zs1,rfl,g1,k1⟩:=k0
 obtain ⟨x1,rfl,w1⟩:=rt3 g1
 obtain ⟨ys2,zs2,rfl,g2,k2⟩:=k1
 obtain ⟨x2,rfl,w2⟩:=rt3 g2
 rw [show zs2=[] from k2]
 exact ⟨x0,x1,x2,rfl,w0,w1,w2⟩
theorem rt25 {n:Nat} {cs:List AVal} (h:typedC Tryz.prog (n + 3) 25 cs):∃ (x0:List UInt8) (x1:List UInt8) (x2:Int) (x3:Int) (x4:Int) (x5:Int) (x6:Int) (x7:Int),cs=[.str x0,.str x1,.int .i64 x2,.int .i64 x3,.int .i64 x4,.int .i64 x5,.int .i64 x6,.int .i64 x7]∧wf25 x0 x1 x2 x3 x4 x5 x6 x7:=by
 rw [typedC] at h
 simp only [Tryz.underlying25] at h
 obtain ⟨ys0,zs0,rfl,g0,k0⟩:=h
 obtain ⟨x0,rfl,w0⟩:=rt9 g0
 obtain ⟨ys1,zs1,rfl,g1,k1⟩:=k0
 obtain ⟨x1,x2,x3,rfl,w1⟩:=rt23 g1
 obtain ⟨ys2,zs2,rfl,g2,k2⟩:=k1
 obtain ⟨x4,rfl,w2⟩:=rt3 g2
 obtain ⟨ys3,zs3,rfl,g3,k3⟩:=k2
 obtain ⟨x5,rfl,w3⟩:=rt3 g3
 obtain ⟨ys4,zs4,rfl,g4,k4⟩:=k3
 obtain ⟨x6,rfl,w4⟩:=rt3 g4
 obtain ⟨ys5,zs5,rfl,g5,k5⟩:=k4
 obtain ⟨x7,rfl,w5⟩:=rt3 g5
 rw [show zs5=[] from k5]
 exact ⟨x0,x1,x2,x3,x4,x5,x6,x7,rfl,w0,w1,w2,w3,w4,w5⟩
theorem tA25:aggT Tryz.prog 25=true:=by kernel_rfl
theorem tC25:Tryz.prog.cellsOf 25=8:=by kernel_rfl
theorem rt26 {n:Nat} {cs:List AVal} (h:typedC Tryz.prog (n + 4) 26 cs):∃ (x0:Option (List GPart)),cs=[sl 8 vpart x0]∧wf26 x0:=by
 rw [typedC] at h
 simp only [Tryz.underlying26] at h
 rcases h with h | ⟨xs,h,hln,hx⟩
 ·exact ⟨none,h,by simp [wf26]⟩
 ·obtain ⟨l,hl,hq⟩:=map_of2 (f:=vpart) (Q:=fun y=>wf25 y.name y.kd y.pa y.pb y.sa y.sb y.cost y.stock) (xs:=xs) (fun y hy=>by
   obtain ⟨h1,h2⟩:=hx y hy
   rw [tA25] at h2
   obtain ⟨y0,y1,y2,y3,y4,y5,y6,y7,hm,hq⟩:=rt25 h1
   exact ⟨⟨y0,y1,y2,y3,y4,y5,y6,y7⟩,by rw [agg_flat h2,hm]; rfl,hq⟩)
  exact ⟨some l,by rw [h,hl,tC25]; rfl,by rw [hl,List.length_map] at hln; exact ⟨hln,hq⟩⟩
theorem tA3:aggT Tryz.prog 3=false:=by kernel_rfl
theorem tC3:Tryz.prog.cellsOf 3=1:=by kernel_rfl
theorem rt48 {n:Nat} {cs:List AVal} (h:typedC Tryz.prog (n + 2) 48 cs):∃ (x0:Option (List Int)),cs=[sl 1 vint x0]∧wf48 x0:=by
 rw [typedC] at h
 simp only [Tryz.underlying48] at h
 rcases h with h | ⟨xs,h,hln,hx⟩
 ·exact ⟨none,h,by simp [wf48]⟩
 ·obtain ⟨l,hl,hq⟩:=map_of2 (f:=vint) (Q:=fun y=>wf3 y) (xs:=xs) (fun y hy=>by
   obtain ⟨h1,h2⟩:=hx y hy
   rw [tA3] at h2
   obtain ⟨y0,hm,hq⟩:=rt3 h1
   rw [flat_one h2] at hm
   exact ⟨y0,(List.cons.inj hm).1,hq⟩)
  exact ⟨some l,by rw [h,hl,tC3]; rfl,by rw [hl,List.length_map] at hln; exact ⟨hln,hq⟩⟩
theorem rt53 {n:Nat} {cs:List AVal} (h:typedC Tryz.prog (n + 2) 53 cs):∃ (x0:Int) (x1:Int),cs=[.int .i64 x0,.int .i64 x1]∧wf53 x0 x1:=by
 rw [typedC] at h
 simp only [Tryz.underlying53] at h
 obtain ⟨ys0,zs0,rfl,g0,k0⟩:=h
 obtain ⟨x0,rfl,w0⟩:=rt3 g0
 obtain ⟨ys1,zs1,rfl,g1,k1⟩:=k0
 obtain ⟨x1,rfl,w1⟩:=rt3 g1
 rw [show zs1=[] from k1]
 exact ⟨x0,x1,rfl,w0,w1⟩
theorem rt107 {n:Nat} {cs:List AVal} (h:typedC Tryz.prog (n + 3) 107 cs):∃ (x0:Int) (x1:Int) (x2:Int) (x3:Int) (x4:Int),cs=[.int .i64 x0,.int .i64 x1,.int .i64 x2,.int .i64 x3,.int .i64 x4]∧wf107 x0 x1 x2 x3 x4:=by
 rw [typedC] at h
 simp only [Tryz.underlying107] at h
 obtain ⟨ys0,zs0,rfl,g0,k0⟩:=h
 obtain ⟨x0,rfl,w0⟩:=rt3 g0
 obtain ⟨ys1,zs1,rfl,g1,k1⟩:=k0
 obtain ⟨x1,x2,rfl,w1⟩:=rt53 g1
 obtain ⟨ys2,zs2,rfl,g2,k2⟩:=k1
 obtain ⟨x3,x4,rfl,w2⟩:=rt53 g2
 rw [show zs2=[] from k2]
 exact ⟨x0,x1,x2,x3,x4,rfl,w0,w1,w2⟩
theorem tA107:aggT Tryz.prog 107=true:=by kernel_rfl
theorem tC107:Tryz.prog.cellsOf 107=5:=by kernel_rfl
theorem rt49 {n:Nat} {cs:List AVal} (h:typedC Tryz.prog (n + 4) 49 cs):∃ (x0:Option (List GBand)),cs=[sl 5 vband x0]∧wf49 x0:=by
 rw [typedC] at h
 simp only [Tryz.underlying49] at h
 rcases h with h | ⟨xs,h,hln,hx⟩
 ·exact ⟨none,h,by simp [wf49]⟩
 ·obtain ⟨l,hl,hq⟩:=map_of2 (f:=vband) (Q:=fun y=>wf107 y.w y.ln y.ld y.mn y.md) (xs:=xs) (fun y hy=>by
   obtain ⟨h1,h2⟩:=hx y hy
   rw [tA107] at h2
   obtain ⟨y0,y1,y2,y3,y4,hm,hq⟩:=rt107 h1
   exact ⟨⟨y0,y1,y2,y3,y4⟩,by rw [agg_flat h2,hm]; rfl,hq⟩)
  exact ⟨some l,by rw [h,hl,tC107]; rfl,by rw [hl,List.length_map] at hln; exact ⟨hln,hq⟩⟩
theorem rt51 {n:Nat} {cs:List AVal} (h:typedC Tryz.prog (n + 5) 51 cs):∃ (x0:Option (List GPart)) (x1:Option (List Int)) (x2:Option (List GBand)),cs=[sl 8 vpart x0,sl 1 vint x1,sl 5 vband x2]∧wf51 x0 x1 x2:=by
 rw [typedC] at h
 simp only [Tryz.underlying51] at h
 obtain ⟨ys0,zs0,rfl,g0,k0⟩:=h
 obtain ⟨x0,rfl,w0⟩:=rt26 g0
 obtain ⟨ys1,zs1,rfl,g1,k1⟩:=k0
 obtain ⟨x1,rfl,w1⟩:=rt48 g1
 obtain ⟨ys2,zs2,rfl,g2,k2⟩:=k1
 obtain ⟨x2,rfl,w2⟩:=rt49 g2
 rw [show zs2=[] from k2]
 exact ⟨x0,x1,x2,rfl,w0,w1,w2⟩
theorem tA51:aggT Tryz.prog 51=true:=by kernel_rfl
theorem law4 (xs:List AVal) (h:typedAll Tryz.prog 7 Tryz.f4.params.toList xs):IsoCall Tryz.prog 4 xs (.bool true) false:=by
 rw [Tryz.params4] at h
 obtain ⟨y0,ys0,rfl,h0,h⟩:=h
 obtain ⟨y1,ys1,rfl,h1,h⟩:=h
 rw [show ys1=[] from h]
 obtain ⟨g0,k0⟩:=h0
 rw [tA51] at k0
 obtain ⟨p0_0,p0_1,p0_2,e0,q0⟩:=rt51 g0
 obtain ⟨g1,k1⟩:=h1
 rw [tA3] at k1
 obtain ⟨p1_0,e1,q1⟩:=rt3 g1
 rw [flat_one k1] at e1
 obtain rfl:y1=.int .i64 p1_0:=(List.cons.inj e1).1
 rw [agg_flat k0,e0]
 exact callX_ok okZ (I4 ⟨p0_0,p0_1,p0_2⟩ p1_0) (by simp only [go_sem,seval])
end Go.Z
namespace Go.Proofs.YtnjngdcbkkonnaaGreatDoor
open Go Go.Abs Go.Z Go.RowKit
theorem tabs_of {W:World} (hsh:W.ShapedOpen Tryz.prog) (h:laidMetH Tryz.prog Rows.crossoverLevelsRow.laid W):Tabs Tryz.prog W:=by
 rw [MakeChecks.laidMetH_plain _ _ _ (by kernel_rfl)] at h
 exact tabs_c4 (List.mem_of_getElem? (i:=2) (by kernel_rfl)) (List.mem_of_getElem? (i:=3) (by kernel_rfl)) (List.mem_of_getElem? (i:=4) (by kernel_rfl)) hsh h
theorem law4_lifted (os:Os) (started:os.Started) (H:Type) (enc:TypeId × Value→H):
  ReturnsInHanded {} Tryz.checked os 4 .any (fun w args=>(Rows.crossoverLevelsSpec.pre enc Tryz.prog Tryz.f4 Rows.crossoverLevelsRow.domain false w args∧laidMetH Tryz.prog Rows.crossoverLevelsRow.laid w)∧sizedMet enc Tryz.prog Tryz.f4 (OpenSpec.ofChange Rows.crossoverLevelsSpec) false w args) (Rows.crossoverLevelsSpec.post enc Tryz.prog Tryz.f4 false true false false):=
 law_lifted_laid (C:=Tryz.checked) (laid:=Rows.crossoverLevelsRow.laid) 7 4 (fun _ _ hh h=>h.of_heap hh) z_own started (by kernel_rfl) Tryz.func4
  (ChangeSpec.witness_shaped (enc:=enc) (C:=Tryz.checked) (os:=os) (X:=fun w _=>laidMetH Tryz.prog Rows.crossoverLevelsRow.laid w) false (World.laidAll Tryz.prog os Rows.crossoverLevelsRow.laid) #[.agg #[.slice none 0 0,.slice none 0 0,.slice none 0 0],.int .i64 0] 8 (World.laidAll_os _ _ _)
   (World.shaped_of_ZipB (by kernel_rfl) (by kernel_rfl)) (by kernel_rfl) (by kernel_rfl) (by kernel_rfl)
   (by rw [MakeChecks.laidMetH_plain _ _ _ (by kernel_rfl)]; exact laidMet_laidAll _ (by kernel_rfl) (by kernel_rfl)))
  rfl rfl Tryz.underlying4 z_laid (by kernel_rfl) (by kernel_rfl)
  (fun ds hd=>by
   rw [Tryz.params4] at hd
   match ds,hd with
   | [d1,d2],_=>exact ⟨rfl,rfl,rfl⟩)
  law4 (fun W hsh h=>tabs_of hsh h)
theorem crossoverLevels_row:Rows.CrossoverLevelsSaid:=
 OpenClaim.holds_of_wide 4 Tryz.f4 rfl rfl rfl rfl rfl rfl rfl ⟨rfl,rfl,rfl,rfl,rfl⟩ rfl rfl rfl rfl rfl c4_named2 Tryz.func4 c4_closed c4_inst c4_wrap
  (fun os started H enc _=>law4_lifted os started H enc)
theorem crossoverLevels_holds:Rows.CrossoverLevelsCardSaid:=
 Claim7.holds_tied_plain_at .later [] [.data, .data, .data, .data, .data] true (true, "1b137b5074cd62955587cfa04bcaa679776963b89422bbb2bd8fd54760d6b645") false
  crossoverLevels_row (fun _ h=>by cases h) c4_wfText (fun _ h=>by cases h) crossoverLevels_row_tie rfl ⟨rfl,rfl⟩ x_main rfl
  (fun f fn hf hfn=>by
   obtain rfl:f=4:=Option.some.inj (c4_named2.symm.trans hf) |>.symm
   obtain rfl:fn=Tryz.f4:=(Option.some.inj (Tryz.func4.symm.trans hfn)).symm
   exact ⟨x_looks,fun j t ht=>by
    rw [Tryz.params4] at ht
    have hm:t∈[51,3]:=by simpa using Array.mem_of_getElem? ht
    have hall:([51,3].all fun u=>!Tryz.prog.wantsStandIn u)=true:=by kernel_rfl
    exact (show Tryz.prog.wantsStandIn t=false by simpa using List.all_eq_true.1 hall t hm)⟩)
  c4_goes
end Go.Proofs.YtnjngdcbkkonnaaGreatDoor
