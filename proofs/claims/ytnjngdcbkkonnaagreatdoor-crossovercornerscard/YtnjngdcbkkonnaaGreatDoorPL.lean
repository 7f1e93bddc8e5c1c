/-
  CrossoverCorners returns true for every input, and each argument reads afterwards as it read before (the statement Rows.CrossoverCornersSaid). No conditions.
-/
import Derived.Test.YtnjngdcbkkonnaaGreatDoorY1
import Derived.Test.YtnjngdcbkkonnaaGreatDoorPY
import Derived.Test.YtnjngdcbkkonnaaGreatDoorPC
set_option linter.unusedVariables false
set_option linter.unusedSimpArgs false
set_option maxRecDepth 100000
namespace Go.Z
open Go Go.Abs Go.Proofs
theorem qpk {α:Type} {f:α→AVal} {Q:α→Prop}:∀ {xs:List AVal},(∀ y∈xs,∃ a,y=f a∧Q a)→∃ l:List α,xs=l.map f∧∀ a∈l,Q a
 | [],_=>⟨[],rfl,by simp⟩
 | y::xs,h=>by
  obtain ⟨a,ha,hq⟩:=h y (List.mem_cons_self ..)
  obtain ⟨l,hl,hr⟩:=qpk (f:=f) (Q:=Q) (fun z hz=>h z (List.mem_cons_of_mem _ hz))
  exact ⟨a::l,by rw [ha,hl]; rfl,fun b hb=>by
   rcases List.mem_cons.1 hb with rfl | hb
   ·exact hq
   ·exact hr b hb⟩
def wf9 (x0:List UInt8):Prop:=x0.length≤maxLen
def wf3 (x0:Int):Prop:=(Lit.int .i64 x0).wf=true
def jcx (x0:List UInt8) (x1:Int) (x2:Int):Prop:=wf9 x0∧wf3 x1∧wf3 x2
def q8o (x0:List UInt8) (x1:List UInt8) (x2:Int) (x3:Int) (x4:Int) (x5:Int) (x6:Int) (x7:Int):Prop:=wf9 x0∧jcx x1 x2 x3∧wf3 x4∧wf3 x5∧wf3 x6∧wf3 x7
def q7c (x0:Option (List qi)):Prop:=(x0.getD []).length≤maxLen∧∀ y∈x0.getD [],q8o y.name y.kd y.pa y.pb y.sa y.sb y.cost y.stock
def q8b (x0:Option (List Int)):Prop:=(x0.getD []).length≤maxLen∧∀ y∈x0.getD [],wf3 y
def q7a (x0:Int) (x1:Int):Prop:=wf3 x0∧wf3 x1
def q1y (x0:Int) (x1:Int) (x2:Int) (x3:Int) (x4:Int):Prop:=wf3 x0∧q7a x1 x2∧q7a x3 x4
def q7w (x0:Option (List jm)):Prop:=(x0.getD []).length≤maxLen∧∀ y∈x0.getD [],q1y y.w y.ln y.ld y.mn y.md
def js1 (x0:Option (List qi)) (x1:Option (List Int)) (x2:Option (List jm)):Prop:=q7c x0∧q8b x1∧q7w x2
theorem rt9 {n:Nat} {cs:List AVal} (h:zp Tryz.prog (n + 1) 9 cs):∃ (x0:List UInt8),cs=[.str x0]∧wf9 x0:=by
 simp only [zp,Tryz.underlying9] at h
 exact h
theorem rt3 {n:Nat} {cs:List AVal} (h:zp Tryz.prog (n + 1) 3 cs):∃ (x0:Int),cs=[.int .i64 x0]∧wf3 x0:=by
 simp only [zp,Tryz.underlying3] at h
 exact h
theorem jrb {n:Nat} {cs:List AVal} (h:zp Tryz.prog (n + 2) 23 cs):∃ (x0:List UInt8) (x1:Int) (x2:Int),cs=[.str x0,.int .i64 x1,.int .i64 x2]∧jcx x0 x1 x2:=by
 rw [zp] at h
 simp only [Tryz.underlying23] at h
 obtain ⟨ys0,zs0,rfl,g0,k0⟩:=h
 obtain ⟨x0,rfl,w0⟩:=rt9 g0
 obtain ⟨ys1,zs1,rfl,g1,k1⟩:=k0
 obtain ⟨x1,rfl,w1⟩:=rt3 g1
 obtain ⟨ys2,zs2,rfl,g2,k2⟩:=k1
 obtain ⟨x2,rfl,w2⟩:=rt3 g2
 rw [show zs2=[] from k2]
 exact ⟨x0,x1,x2,rfl,w0,w1,w2⟩
theorem jtm {n:Nat} {cs:List AVal} (h:zp Tryz.prog (n + 3) 25 cs):∃ (x0:List UInt8) (x1:List UInt8) (x2:Int) (x3:Int) (x4:Int) (x5:Int) (x6:Int) (x7:Int),cs=[.str x0,.str x1,.int .i64 x2,.int .i64 x3,.int .i64 x4,.int .i64 x5,.int .i64 x6,.int .i64 x7]∧q8o x0 x1 x2 x3 x4 x5 x6 x7:=by
 rw [zp] at h
 simp only [Tryz.underlying25] at h
 obtain ⟨ys0,zs0,rfl,g0,k0⟩:=h
 obtain ⟨x0,rfl,w0⟩:=rt9 g0
 obtain ⟨ys1,zs1,rfl,g1,k1⟩:=k0
 obtain ⟨x1,x2,x3,rfl,w1⟩:=jrb g1
 obtain ⟨ys2,zs2,rfl,g2,k2⟩:=k1
 obtain ⟨x4,rfl,w2⟩:=rt3 g2
 obtain ⟨ys3,zs3,rfl,g3,k3⟩:=k2
 obtain ⟨x5,rfl,w3⟩:=rt3 g3
 obtain ⟨ys4,zs4,rfl,g4,k4⟩:=k3
 obtain ⟨x6,rfl,w4⟩:=rt3 g4
 obtain ⟨ys5,zs5,rfl,g5,k5⟩:=k4
 obtain ⟨x7,rfl,w5⟩:=rt3 g5
 rw [show zs5=[] from k5]
 exact ⟨x0,x1,x2,x3,x4,x5,x6,x7,rfl,w0,w1,w2,w3,w4,w5⟩
theorem jqu:qd2 Tryz.prog 25=true:=by kernel_rfl
theorem jtw:Tryz.prog.cellsOf 25=8:=by kernel_rfl
theorem jpy {n:Nat} {cs:List AVal} (h:zp Tryz.prog (n + 4) 26 cs):∃ (x0:Option (List qi)),cs=[sl 8 qm x0]∧q7c x0:=by
 rw [zp] at h
 simp only [Tryz.underlying26] at h
 rcases h with h | ⟨xs,h,hln,hx⟩
 ·exact ⟨none,h,by simp [q7c]⟩
 ·obtain ⟨l,hl,hq⟩:=qpk (f:=qm) (Q:=fun y=>q8o y.name y.kd y.pa y.pb y.sa y.sb y.cost y.stock) (xs:=xs) (fun y hy=>by
   obtain ⟨h1,h2⟩:=hx y hy
   rw [jqu] at h2
   obtain ⟨y0,y1,y2,y3,y4,y5,y6,y7,hm,hq⟩:=jtm h1
   exact ⟨⟨y0,y1,y2,y3,y4,y5,y6,y7⟩,by rw [qqs h2,hm]; rfl,hq⟩)
  exact ⟨some l,by rw [h,hl,jtw]; rfl,by rw [hl,List.length_map] at hln; exact ⟨hln,hq⟩⟩
theorem tA3:qd2 Tryz.prog 3=false:=by kernel_rfl
theorem tC3:Tryz.prog.cellsOf 3=1:=by kernel_rfl
theorem jrq {n:Nat} {cs:List AVal} (h:zp Tryz.prog (n + 2) 48 cs):∃ (x0:Option (List Int)),cs=[sl 1 qo x0]∧q8b x0:=by
 rw [zp] at h
 simp only [Tryz.underlying48] at h
 rcases h with h | ⟨xs,h,hln,hx⟩
 ·exact ⟨none,h,by simp [q8b]⟩
 ·obtain ⟨l,hl,hq⟩:=qpk (f:=qo) (Q:=fun y=>wf3 y) (xs:=xs) (fun y hy=>by
   obtain ⟨h1,h2⟩:=hx y hy
   rw [tA3] at h2
   obtain ⟨y0,hm,hq⟩:=rt3 h1
   rw [qbl h2] at hm
   exact ⟨y0,(List.cons.inj hm).1,hq⟩)
  exact ⟨some l,by rw [h,hl,tC3]; rfl,by rw [hl,List.length_map] at hln; exact ⟨hln,hq⟩⟩
theorem jcr {n:Nat} {cs:List AVal} (h:zp Tryz.prog (n + 2) 53 cs):∃ (x0:Int) (x1:Int),cs=[.int .i64 x0,.int .i64 x1]∧q7a x0 x1:=by
 rw [zp] at h
 simp only [Tryz.underlying53] at h
 obtain ⟨ys0,zs0,rfl,g0,k0⟩:=h
 obtain ⟨x0,rfl,w0⟩:=rt3 g0
 obtain ⟨ys1,zs1,rfl,g1,k1⟩:=k0
 obtain ⟨x1,rfl,w1⟩:=rt3 g1
 rw [show zs1=[] from k1]
 exact ⟨x0,x1,rfl,w0,w1⟩
theorem jk4 {n:Nat} {cs:List AVal} (h:zp Tryz.prog (n + 3) 107 cs):∃ (x0:Int) (x1:Int) (x2:Int) (x3:Int) (x4:Int),cs=[.int .i64 x0,.int .i64 x1,.int .i64 x2,.int .i64 x3,.int .i64 x4]∧q1y x0 x1 x2 x3 x4:=by
 rw [zp] at h
 simp only [Tryz.underlying107] at h
 obtain ⟨ys0,zs0,rfl,g0,k0⟩:=h
 obtain ⟨x0,rfl,w0⟩:=rt3 g0
 obtain ⟨ys1,zs1,rfl,g1,k1⟩:=k0
 obtain ⟨x1,x2,rfl,w1⟩:=jcr g1
 obtain ⟨ys2,zs2,rfl,g2,k2⟩:=k1
 obtain ⟨x3,x4,rfl,w2⟩:=jcr g2
 rw [show zs2=[] from k2]
 exact ⟨x0,x1,x2,x3,x4,rfl,w0,w1,w2⟩
theorem jly:qd2 Tryz.prog 107=true:=by kernel_rfl
theorem jjd:Tryz.prog.cellsOf 107=5:=by kernel_rfl
theorem jrt {n:Nat} {cs:List AVal} (h:zp Tryz.prog (n + 4) 49 cs):∃ (x0:Option (List jm)),cs=[sl 5 jg x0]∧q7w x0:=by
 rw [zp] at h
 simp only [Tryz.underlying49] at h
 rcases h with h | ⟨xs,h,hln,hx⟩
 ·exact ⟨none,h,by simp [q7w]⟩
 ·obtain ⟨l,hl,hq⟩:=qpk (f:=jg) (Q:=fun y=>q1y y.w y.ln y.ld y.mn y.md) (xs:=xs) (fun y hy=>by
   obtain ⟨h1,h2⟩:=hx y hy
   rw [jly] at h2
   obtain ⟨y0,y1,y2,y3,y4,hm,hq⟩:=jk4 h1
   exact ⟨⟨y0,y1,y2,y3,y4⟩,by rw [qqs h2,hm]; rfl,hq⟩)
  exact ⟨some l,by rw [h,hl,jjd]; rfl,by rw [hl,List.length_map] at hln; exact ⟨hln,hq⟩⟩
theorem jrc {n:Nat} {cs:List AVal} (h:zp Tryz.prog (n + 5) 51 cs):∃ (x0:Option (List qi)) (x1:Option (List Int)) (x2:Option (List jm)),cs=[sl 8 qm x0,sl 1 qo x1,sl 5 jg x2]∧js1 x0 x1 x2:=by
 rw [zp] at h
 simp only [Tryz.underlying51] at h
 obtain ⟨ys0,zs0,rfl,g0,k0⟩:=h
 obtain ⟨x0,rfl,w0⟩:=jpy g0
 obtain ⟨ys1,zs1,rfl,g1,k1⟩:=k0
 obtain ⟨x1,rfl,w1⟩:=jrq g1
 obtain ⟨ys2,zs2,rfl,g2,k2⟩:=k1
 obtain ⟨x2,rfl,w2⟩:=jrt g2
 rw [show zs2=[] from k2]
 exact ⟨x0,x1,x2,rfl,w0,w1,w2⟩
def wf5 (x0:Int):Prop:=(Lit.int .u8 x0).wf=true
theorem rt5 {n:Nat} {cs:List AVal} (h:zp Tryz.prog (n + 1) 5 cs):∃ (x0:Int),cs=[.int .u8 x0]∧wf5 x0:=by
 simp only [zp,Tryz.underlying5] at h
 exact h
theorem jqe:qd2 Tryz.prog 51=true:=by kernel_rfl
theorem tA5:qd2 Tryz.prog 5=false:=by kernel_rfl
theorem js2 (xs:List AVal) (h:qlp Tryz.prog 7 Tryz.f7.params.toList xs):qac Tryz.prog 7 xs (.bool true) false:=by
 rw [Tryz.params7] at h
 obtain ⟨y0,ys0,rfl,h0,h⟩:=h
 obtain ⟨y1,ys1,rfl,h1,h⟩:=h
 rw [show ys1=[] from h]
 obtain ⟨g0,k0⟩:=h0
 rw [jqe] at k0
 obtain ⟨p0_0,p0_1,p0_2,e0,q0⟩:=jrc g0
 obtain ⟨g1,k1⟩:=h1
 rw [tA5] at k1
 obtain ⟨p1_0,e1,q1⟩:=rt5 g1
 rw [qbl k1] at e1
 obtain rfl:y1=.int .u8 p1_0:=(List.cons.inj e1).1
 rw [qqs k0,e0]
 exact qp6 okZ (I7 ⟨p0_0,p0_1,p0_2⟩ p1_0 (jh8 q1)) (by simp only [go_sem,seval])
end Go.Z
namespace Go.Proofs.YtnjngdcbkkonnaaGreatDoor
open Go Go.Abs Go.Z Go.RowKit
theorem jag {W:World} (hsh:W.ShapedOpen Tryz.prog) (h:laidMetH Tryz.prog Rows.crossoverCornersRow.laid W):Tabs Tryz.prog W:=by
 rw [MakeChecks.laidMetH_plain _ _ _ (by kernel_rfl)] at h
 exact jal (List.mem_of_getElem? (i:=2) (by kernel_rfl)) (List.mem_of_getElem? (i:=3) (by kernel_rfl)) (List.mem_of_getElem? (i:=4) (by kernel_rfl)) hsh h
theorem qza (os:Os) (started:os.Started) (H:Type) (enc:TypeId × Value→H):
  ReturnsInHanded {} Tryz.checked os 7 .any (fun w args=>(Rows.crossoverCornersSpec.pre enc Tryz.prog Tryz.f7 Rows.crossoverCornersRow.domain false w args∧laidMetH Tryz.prog Rows.crossoverCornersRow.laid w)∧sizedMet enc Tryz.prog Tryz.f7 (OpenSpec.ofChange Rows.crossoverCornersSpec) false w args) (Rows.crossoverCornersSpec.post enc Tryz.prog Tryz.f7 false true false false):=
 qrc (C:=Tryz.checked) (laid:=Rows.crossoverCornersRow.laid) 7 4 (fun _ _ hh h=>h.of_heap hh) jlk started (by kernel_rfl) Tryz.func7
  (ChangeSpec.witness_shaped (enc:=enc) (C:=Tryz.checked) (os:=os) (X:=fun w _=>laidMetH Tryz.prog Rows.crossoverCornersRow.laid w) false (World.laidAll Tryz.prog os Rows.crossoverCornersRow.laid) #[.agg #[.slice none 0 0,.slice none 0 0,.slice none 0 0],.int .u8 0] 8 (World.laidAll_os _ _ _)
   (World.shaped_of_ZipB (by kernel_rfl) (by kernel_rfl)) (by kernel_rfl) (by kernel_rfl) (by kernel_rfl)
   (by rw [MakeChecks.laidMetH_plain _ _ _ (by kernel_rfl)]; exact laidMet_laidAll _ (by kernel_rfl) (by kernel_rfl)))
  rfl rfl Tryz.underlying4 q42 (by kernel_rfl) (by kernel_rfl)
  (fun ds hd=>by
   rw [Tryz.params7] at hd
   match ds,hd with
   | [d1,d2],_=>exact ⟨rfl,rfl,rfl⟩)
  js2 (fun W hsh h=>jag hsh h)
theorem qmb:Rows.CrossoverCornersSaid:=
 OpenClaim.holds_of_wide 7 Tryz.f7 rfl rfl rfl rfl rfl rfl rfl ⟨rfl,rfl,rfl,rfl,rfl⟩ rfl rfl rfl rfl rfl c7_named2 Tryz.func7 q31 jaq jbr
  (fun os started H enc _=>qza os started H enc)
theorem crossoverCorners_holds:Rows.CrossoverCornersCardSaid:=
 Claim7.holds_tied_plain_at .later [] [.data, .data, .data, .data, .data] true (true, "1b137b5074cd62955587cfa04bcaa679776963b89422bbb2bd8fd54760d6b645") false
  qmb (fun _ h=>by cases h) q4k (fun _ h=>by cases h) crossoverCorners_row_tie rfl ⟨rfl,rfl⟩ jfu rfl
  (fun f fn hf hfn=>by
   obtain rfl:f=7:=Option.some.inj (c7_named2.symm.trans hf) |>.symm
   obtain rfl:fn=Tryz.f7:=(Option.some.inj (Tryz.func7.symm.trans hfn)).symm
   exact ⟨jbo,fun j t ht=>by
    rw [Tryz.params7] at ht
    have hm:t∈[51,5]:=by simpa using Array.mem_of_getElem? ht
    have hall:([51,5].all fun u=>!Tryz.prog.wantsStandIn u)=true:=by kernel_rfl
    exact (show Tryz.prog.wantsStandIn t=false by simpa using List.all_eq_true.1 hall t hm)⟩)
  jbe
end Go.Proofs.YtnjngdcbkkonnaaGreatDoor
