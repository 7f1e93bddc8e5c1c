/-
  CrossoverRefuses returns true for every input, and each argument reads afterwards as it read before (the statement Rows.CrossoverRefusesSaid). No conditions.
-/
import Derived.Test.YtnjngdcbkkonnaaGreatDoorQH
import Derived.Test.YtnjngdcbkkonnaaGreatDoorPY
import Derived.Test.YtnjngdcbkkonnaaGreatDoorPC
set_option linter.unusedVariables false
set_option linter.unusedSimpArgs false
set_option maxRecDepth 100000
namespace Go.Z
open Go Go.Abs Go.Proofs
theorem qko {α:Type} {f:α→qa} {Q:α→Prop}:∀ {xs:List qa},(∀ y∈xs,∃ a,y=f a∧Q a)→∃ l:List α,xs=l.map f∧∀ a∈l,Q a
 | [],_=>⟨[],rfl,by simp⟩
 | y::xs,h=>by
  obtain ⟨a,ha,hq⟩:=h y (List.mem_cons_self ..)
  obtain ⟨l,hl,hr⟩:=qko (f:=f) (Q:=Q) (fun z hz=>h z (List.mem_cons_of_mem _ hz))
  exact ⟨a::l,by rw [ha,hl]; rfl,fun b hb=>by
   rcases List.mem_cons.1 hb with rfl | hb
   ·exact hq
   ·exact hr b hb⟩
def wf9 (x0:List UInt8):Prop:=x0.length≤maxLen
def wf3 (x0:Int):Prop:=(Lit.int .i64 x0).wf=true
def q7v (x0:List UInt8) (x1:Int) (x2:Int):Prop:=wf9 x0∧wf3 x1∧wf3 x2
def jey (x0:List UInt8) (x1:List UInt8) (x2:Int) (x3:Int) (x4:Int) (x5:Int) (x6:Int) (x7:Int):Prop:=wf9 x0∧q7v x1 x2 x3∧wf3 x4∧wf3 x5∧wf3 x6∧wf3 x7
def je2 (x0:Option (List qb)):Prop:=(x0.getD []).length≤maxLen∧∀ y∈x0.getD [],jey y.name y.kd y.pa y.pb y.sa y.sb y.cost y.stock
def jdy (x0:Int) (x1:Int):Prop:=wf3 x0∧wf3 x1
def q8y (x0:Int) (x1:Int) (x2:Int) (x3:Int) (x4:Int):Prop:=wf3 x0∧jdy x1 x2∧jdy x3 x4
def je8 (x0:Option (List qp)):Prop:=(x0.getD []).length≤maxLen∧∀ y∈x0.getD [],q8y y.w y.ln y.ld y.mn y.md
def js1 (x0:Option (List qb)) (x1:Option (List qp)) (x2:Int):Prop:=je2 x0∧je8 x1∧wf3 x2
theorem rt9 {n:Nat} {cs:List qa} (h:kx Tryz.prog (n + 1) 9 cs):∃ (x0:List UInt8),cs=[.str x0]∧wf9 x0:=by
 simp only [kx,Tryz.underlying9] at h
 exact h
theorem rt3 {n:Nat} {cs:List qa} (h:kx Tryz.prog (n + 1) 3 cs):∃ (x0:Int),cs=[.int .i64 x0]∧wf3 x0:=by
 simp only [kx,Tryz.underlying3] at h
 exact h
theorem jld {n:Nat} {cs:List qa} (h:kx Tryz.prog (n + 2) 23 cs):∃ (x0:List UInt8) (x1:Int) (x2:Int),cs=[.str x0,.int .i64 x1,.int .i64 x2]∧q7v x0 x1 x2:=by
 rw [kx] at h
 simp only [Tryz.underlying23] at h
 obtain ⟨ys0,zs0,rfl,g0,k0⟩:=h
 obtain ⟨x0,rfl,w0⟩:=rt9 g0
 obtain ⟨ys1,zs1,rfl,g1,k1⟩:=k0
 obtain ⟨x1,rfl,w1⟩:=rt3 g1
 obtain ⟨ys2,zs2,rfl,g2,k2⟩:=k1
 obtain ⟨x2,rfl,w2⟩:=rt3 g2
 rw [show zs2=[] from k2]
 exact ⟨x0,x1,x2,rfl,w0,w1,w2⟩
theorem jzn {n:Nat} {cs:List qa} (h:kx Tryz.prog (n + 3) 25 cs):∃ (x0:List UInt8) (x1:List UInt8) (x2:Int) (x3:Int) (x4:Int) (x5:Int) (x6:Int) (x7:Int),cs=[.str x0,.str x1,.int .i64 x2,.int .i64 x3,.int .i64 x4,.int .i64 x5,.int .i64 x6,.int .i64 x7]∧jey x0 x1 x2 x3 x4 x5 x6 x7:=by
 rw [kx] at h
 simp only [Tryz.underlying25] at h
 obtain ⟨ys0,zs0,rfl,g0,k0⟩:=h
 obtain ⟨x0,rfl,w0⟩:=rt9 g0
 obtain ⟨ys1,zs1,rfl,g1,k1⟩:=k0
 obtain ⟨x1,x2,x3,rfl,w1⟩:=jld g1
 obtain ⟨ys2,zs2,rfl,g2,k2⟩:=k1
 obtain ⟨x4,rfl,w2⟩:=rt3 g2
 obtain ⟨ys3,zs3,rfl,g3,k3⟩:=k2
 obtain ⟨x5,rfl,w3⟩:=rt3 g3
 obtain ⟨ys4,zs4,rfl,g4,k4⟩:=k3
 obtain ⟨x6,rfl,w4⟩:=rt3 g4
 obtain ⟨ys5,zs5,rfl,g5,k5⟩:=k4
 obtain ⟨x7,rfl,w5⟩:=rt3 g5
 rw [show zs5=[] from k5]
 exact ⟨x0,x1,x2,x3,x4,x5,x6,x7,rfl,w0,w1,w2,w3,w4,w5⟩
theorem j24:qe8 Tryz.prog 25=true:=by kernel_rfl
theorem j1y:Tryz.prog.cellsOf 25=8:=by kernel_rfl
theorem j18 {n:Nat} {cs:List qa} (h:kx Tryz.prog (n + 4) 26 cs):∃ (x0:Option (List qb)),cs=[sl 8 zi x0]∧je2 x0:=by
 rw [kx] at h
 simp only [Tryz.underlying26] at h
 rcases h with h | ⟨xs,h,hln,hx⟩
 ·exact ⟨none,h,by simp [je2]⟩
 ·obtain ⟨l,hl,hq⟩:=qko (f:=zi) (Q:=fun y=>jey y.name y.kd y.pa y.pb y.sa y.sb y.cost y.stock) (xs:=xs) (fun y hy=>by
   obtain ⟨h1,h2⟩:=hx y hy
   rw [j24] at h2
   obtain ⟨y0,y1,y2,y3,y4,y5,y6,y7,hm,hq⟩:=jzn h1
   exact ⟨⟨y0,y1,y2,y3,y4,y5,y6,y7⟩,by rw [qmo h2,hm]; rfl,hq⟩)
  exact ⟨some l,by rw [h,hl,j1y]; rfl,by rw [hl,List.length_map] at hln; exact ⟨hln,hq⟩⟩
theorem jng {n:Nat} {cs:List qa} (h:kx Tryz.prog (n + 2) 53 cs):∃ (x0:Int) (x1:Int),cs=[.int .i64 x0,.int .i64 x1]∧jdy x0 x1:=by
 rw [kx] at h
 simp only [Tryz.underlying53] at h
 obtain ⟨ys0,zs0,rfl,g0,k0⟩:=h
 obtain ⟨x0,rfl,w0⟩:=rt3 g0
 obtain ⟨ys1,zs1,rfl,g1,k1⟩:=k0
 obtain ⟨x1,rfl,w1⟩:=rt3 g1
 rw [show zs1=[] from k1]
 exact ⟨x0,x1,rfl,w0,w1⟩
theorem jvd {n:Nat} {cs:List qa} (h:kx Tryz.prog (n + 3) 107 cs):∃ (x0:Int) (x1:Int) (x2:Int) (x3:Int) (x4:Int),cs=[.int .i64 x0,.int .i64 x1,.int .i64 x2,.int .i64 x3,.int .i64 x4]∧q8y x0 x1 x2 x3 x4:=by
 rw [kx] at h
 simp only [Tryz.underlying107] at h
 obtain ⟨ys0,zs0,rfl,g0,k0⟩:=h
 obtain ⟨x0,rfl,w0⟩:=rt3 g0
 obtain ⟨ys1,zs1,rfl,g1,k1⟩:=k0
 obtain ⟨x1,x2,rfl,w1⟩:=jng g1
 obtain ⟨ys2,zs2,rfl,g2,k2⟩:=k1
 obtain ⟨x3,x4,rfl,w2⟩:=jng g2
 rw [show zs2=[] from k2]
 exact ⟨x0,x1,x2,x3,x4,rfl,w0,w1,w2⟩
theorem jtc:qe8 Tryz.prog 107=true:=by kernel_rfl
theorem jt8:Tryz.prog.cellsOf 107=5:=by kernel_rfl
theorem j3w {n:Nat} {cs:List qa} (h:kx Tryz.prog (n + 4) 49 cs):∃ (x0:Option (List qp)),cs=[sl 5 yg x0]∧je8 x0:=by
 rw [kx] at h
 simp only [Tryz.underlying49] at h
 rcases h with h | ⟨xs,h,hln,hx⟩
 ·exact ⟨none,h,by simp [je8]⟩
 ·obtain ⟨l,hl,hq⟩:=qko (f:=yg) (Q:=fun y=>q8y y.w y.ln y.ld y.mn y.md) (xs:=xs) (fun y hy=>by
   obtain ⟨h1,h2⟩:=hx y hy
   rw [jtc] at h2
   obtain ⟨y0,y1,y2,y3,y4,hm,hq⟩:=jvd h1
   exact ⟨⟨y0,y1,y2,y3,y4⟩,by rw [qmo h2,hm]; rfl,hq⟩)
  exact ⟨some l,by rw [h,hl,jt8]; rfl,by rw [hl,List.length_map] at hln; exact ⟨hln,hq⟩⟩
theorem jwd {n:Nat} {cs:List qa} (h:kx Tryz.prog (n + 5) 149 cs):∃ (x0:Option (List qb)) (x1:Option (List qp)) (x2:Int),cs=[sl 8 zi x0,sl 5 yg x1,.int .i64 x2]∧js1 x0 x1 x2:=by
 rw [kx] at h
 simp only [Tryz.underlying149] at h
 obtain ⟨ys0,zs0,rfl,g0,k0⟩:=h
 obtain ⟨x0,rfl,w0⟩:=j18 g0
 obtain ⟨ys1,zs1,rfl,g1,k1⟩:=k0
 obtain ⟨x1,rfl,w1⟩:=j3w g1
 obtain ⟨ys2,zs2,rfl,g2,k2⟩:=k1
 obtain ⟨x2,rfl,w2⟩:=rt3 g2
 rw [show zs2=[] from k2]
 exact ⟨x0,x1,x2,rfl,w0,w1,w2⟩
def jcp (x0:Option (List Int)):Prop:=(x0.getD []).length≤maxLen∧∀ y∈x0.getD [],wf3 y
def jd3 (x0:Option (List qk)):Prop:=(x0.getD []).length≤maxLen∧∀ y∈x0.getD [],q7v y.kind y.a y.b
def jft (x0:Int) (x1:Option (List qk)):Prop:=wf3 x0∧jd3 x1
def q7p (x0:Option (List Int)) (x1:Int) (x2:Option (List qk)):Prop:=jcp x0∧jft x1 x2
def jf8 (x0:Option (List qj)):Prop:=(x0.getD []).length≤maxLen∧∀ y∈x0.getD [],q7p y.choice y.rband y.rladder
theorem tA3:qe8 Tryz.prog 3=false:=by kernel_rfl
theorem tC3:Tryz.prog.cellsOf 3=1:=by kernel_rfl
theorem jzz {n:Nat} {cs:List qa} (h:kx Tryz.prog (n + 2) 48 cs):∃ (x0:Option (List Int)),cs=[sl 1 zh x0]∧jcp x0:=by
 rw [kx] at h
 simp only [Tryz.underlying48] at h
 rcases h with h | ⟨xs,h,hln,hx⟩
 ·exact ⟨none,h,by simp [jcp]⟩
 ·obtain ⟨l,hl,hq⟩:=qko (f:=zh) (Q:=fun y=>wf3 y) (xs:=xs) (fun y hy=>by
   obtain ⟨h1,h2⟩:=hx y hy
   rw [tA3] at h2
   obtain ⟨y0,hm,hq⟩:=rt3 h1
   rw [qc4 h2] at hm
   exact ⟨y0,(List.cons.inj hm).1,hq⟩)
  exact ⟨some l,by rw [h,hl,tC3]; rfl,by rw [hl,List.length_map] at hln; exact ⟨hln,hq⟩⟩
theorem j20:qe8 Tryz.prog 23=true:=by kernel_rfl
theorem jza:Tryz.prog.cellsOf 23=3:=by kernel_rfl
theorem jzt {n:Nat} {cs:List qa} (h:kx Tryz.prog (n + 3) 38 cs):∃ (x0:Option (List qk)),cs=[sl 3 vel x0]∧jd3 x0:=by
 rw [kx] at h
 simp only [Tryz.underlying38] at h
 rcases h with h | ⟨xs,h,hln,hx⟩
 ·exact ⟨none,h,by simp [jd3]⟩
 ·obtain ⟨l,hl,hq⟩:=qko (f:=vel) (Q:=fun y=>q7v y.kind y.a y.b) (xs:=xs) (fun y hy=>by
   obtain ⟨h1,h2⟩:=hx y hy
   rw [j20] at h2
   obtain ⟨y0,y1,y2,hm,hq⟩:=jld h1
   exact ⟨⟨y0,y1,y2⟩,by rw [qmo h2,hm]; rfl,hq⟩)
  exact ⟨some l,by rw [h,hl,jza]; rfl,by rw [hl,List.length_map] at hln; exact ⟨hln,hq⟩⟩
theorem juw {n:Nat} {cs:List qa} (h:kx Tryz.prog (n + 4) 138 cs):∃ (x0:Int) (x1:Option (List qk)),cs=[.int .i64 x0,sl 3 vel x1]∧jft x0 x1:=by
 rw [kx] at h
 simp only [Tryz.underlying138] at h
 obtain ⟨ys0,zs0,rfl,g0,k0⟩:=h
 obtain ⟨x0,rfl,w0⟩:=rt3 g0
 obtain ⟨ys1,zs1,rfl,g1,k1⟩:=k0
 obtain ⟨x1,rfl,w1⟩:=jzt g1
 rw [show zs1=[] from k1]
 exact ⟨x0,x1,rfl,w0,w1⟩
theorem jr2 {n:Nat} {cs:List qa} (h:kx Tryz.prog (n + 5) 152 cs):∃ (x0:Option (List Int)) (x1:Int) (x2:Option (List qk)),cs=[sl 1 zh x0,.int .i64 x1,sl 3 vel x2]∧q7p x0 x1 x2:=by
 rw [kx] at h
 simp only [Tryz.underlying152] at h
 obtain ⟨ys0,zs0,rfl,g0,k0⟩:=h
 obtain ⟨x0,rfl,w0⟩:=jzz g0
 obtain ⟨ys1,zs1,rfl,g1,k1⟩:=k0
 obtain ⟨x1,x2,rfl,w1⟩:=juw g1
 rw [show zs1=[] from k1]
 exact ⟨x0,x1,x2,rfl,w0,w1⟩
theorem jrj:qe8 Tryz.prog 152=true:=by kernel_rfl
theorem jvx:Tryz.prog.cellsOf 152=3:=by kernel_rfl
theorem jwg {n:Nat} {cs:List qa} (h:kx Tryz.prog (n + 6) 150 cs):∃ (x0:Option (List qj)),cs=[sl 3 kj x0]∧jf8 x0:=by
 rw [kx] at h
 simp only [Tryz.underlying150] at h
 rcases h with h | ⟨xs,h,hln,hx⟩
 ·exact ⟨none,h,by simp [jf8]⟩
 ·obtain ⟨l,hl,hq⟩:=qko (f:=kj) (Q:=fun y=>q7p y.choice y.rband y.rladder) (xs:=xs) (fun y hy=>by
   obtain ⟨h1,h2⟩:=hx y hy
   rw [jrj] at h2
   obtain ⟨y0,y1,y2,hm,hq⟩:=jr2 h1
   exact ⟨⟨y0,y1,y2⟩,by rw [qmo h2,hm]; rfl,hq⟩)
  exact ⟨some l,by rw [h,hl,jvx]; rfl,by rw [hl,List.length_map] at hln; exact ⟨hln,hq⟩⟩
theorem jua:qe8 Tryz.prog 149=true:=by kernel_rfl
theorem jt9:qe8 Tryz.prog 150=false:=by kernel_rfl
theorem jtp (xs:List qa) (h:qqa Tryz.prog 8 Tryz.f12.params.toList xs):qa3 Tryz.prog 12 xs (.bool true) false:=by
 rw [Tryz.params12] at h
 obtain ⟨y0,ys0,rfl,h0,h⟩:=h
 obtain ⟨y1,ys1,rfl,h1,h⟩:=h
 rw [show ys1=[] from h]
 obtain ⟨g0,k0⟩:=h0
 rw [jua] at k0
 obtain ⟨p0_0,p0_1,p0_2,e0,q0⟩:=jwd g0
 obtain ⟨g1,k1⟩:=h1
 rw [jt9] at k1
 obtain ⟨p1_0,e1,q1⟩:=jwg g1
 rw [qc4 k1] at e1
 obtain rfl:y1=sl 3 kj p1_0:=(List.cons.inj e1).1
 rw [qmo k0,e0]
 exact qvy okY (I12 ⟨p0_0,p0_1,p0_2⟩ p1_0) (by simp only [go_sem,seval])
end Go.Z
namespace Go.Proofs.YtnjngdcbkkonnaaGreatDoor
open Go Go.Abs Go.Z Go.RowKit
theorem jh6 {W:World} (hsh:W.ShapedOpen Tryz.prog) (h:laidMetH Tryz.prog Rows.crossoverRefusesRow.laid W):Tabs Tryz.prog W:=by
 rw [MakeChecks.laidMetH_plain _ _ _ (by kernel_rfl)] at h
 exact jgh (List.mem_of_getElem? (i:=2) (by kernel_rfl)) (List.mem_of_getElem? (i:=3) (by kernel_rfl)) (List.mem_of_getElem? (i:=4) (by kernel_rfl)) hsh h
theorem q2w (os:Os) (started:os.Started) (H:Type) (enc:TypeId × Value→H):
  ReturnsInHanded {} Tryz.checked os 12 .any (fun w args=>(Rows.crossoverRefusesSpec.pre enc Tryz.prog Tryz.f12 Rows.crossoverRefusesRow.domain false w args∧laidMetH Tryz.prog Rows.crossoverRefusesRow.laid w)∧sizedMet enc Tryz.prog Tryz.f12 (OpenSpec.ofChange Rows.crossoverRefusesSpec) false w args) (Rows.crossoverRefusesSpec.post enc Tryz.prog Tryz.f12 false true false false):=
 qw0 (C:=Tryz.checked) (laid:=Rows.crossoverRefusesRow.laid) 8 4 (fun _ _ hh h=>h.of_heap hh) jwb started (by kernel_rfl) Tryz.func12
  (ChangeSpec.witness_shaped (enc:=enc) (C:=Tryz.checked) (os:=os) (X:=fun w _=>laidMetH Tryz.prog Rows.crossoverRefusesRow.laid w) false (World.laidAll Tryz.prog os Rows.crossoverRefusesRow.laid) #[.agg #[.slice none 0 0,.slice none 0 0,.int .i64 0],.slice none 0 0] 8 (World.laidAll_os _ _ _)
   (World.shaped_of_ZipB (by kernel_rfl) (by kernel_rfl)) (by kernel_rfl) (by kernel_rfl) (by kernel_rfl)
   (by rw [MakeChecks.laidMetH_plain _ _ _ (by kernel_rfl)]; exact laidMet_laidAll _ (by kernel_rfl) (by kernel_rfl)))
  rfl rfl Tryz.underlying4 ja9 (by kernel_rfl) (by kernel_rfl)
  (fun ds hd=>by
   rw [Tryz.params12] at hd
   match ds,hd with
   | [d1,d2],_=>exact ⟨rfl,rfl,rfl⟩)
  jtp (fun W hsh h=>jh6 hsh h)
theorem qp5:Rows.CrossoverRefusesSaid:=
 OpenClaim.holds_of_wide 12 Tryz.f12 rfl rfl rfl rfl rfl rfl rfl ⟨rfl,rfl,rfl,rfl,rfl⟩ rfl rfl rfl rfl rfl c12_named2 Tryz.func12 q8s jed jdj
  (fun os started H enc _=>q2w os started H enc)
theorem crossoverRefuses_holds:Rows.CrossoverRefusesCardSaid:=
 Claim7.holds_tied_plain_at .later [] [.data, .data, .data, .data, .data] true (true, "1b137b5074cd62955587cfa04bcaa679776963b89422bbb2bd8fd54760d6b645") false
  qp5 (fun _ h=>by cases h) q8g (fun _ h=>by cases h) crossoverRefuses_row_tie rfl ⟨rfl,rfl⟩ jmf rfl
  (fun f fn hf hfn=>by
   obtain rfl:f=12:=Option.some.inj (c12_named2.symm.trans hf) |>.symm
   obtain rfl:fn=Tryz.f12:=(Option.some.inj (Tryz.func12.symm.trans hfn)).symm
   exact ⟨jh1,fun j t ht=>by
    rw [Tryz.params12] at ht
    have hm:t∈[149,150]:=by simpa using Array.mem_of_getElem? ht
    have hall:([149,150].all fun u=>!Tryz.prog.wantsStandIn u)=true:=by kernel_rfl
    exact (show Tryz.prog.wantsStandIn t=false by simpa using List.all_eq_true.1 hall t hm)⟩)
  jeh
end Go.Proofs.YtnjngdcbkkonnaaGreatDoor
