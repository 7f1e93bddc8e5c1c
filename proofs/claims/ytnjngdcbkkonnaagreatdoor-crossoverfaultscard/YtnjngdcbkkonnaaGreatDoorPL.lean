/-
  CrossoverFaults returns true for every input, and each argument reads afterwards as it read before (the statement Rows.CrossoverFaultsSaid). No conditions.
-/
import Derived.Test.YtnjngdcbkkonnaaGreatDoorQC
import Derived.Test.YtnjngdcbkkonnaaGreatDoorPY
import Derived.Test.YtnjngdcbkkonnaaGreatDoorPC
set_option linter.unusedVariables false
set_option linter.unusedSimpArgs false
set_option maxRecDepth 100000
namespace Go.Z
open Go Go.Abs Go.Proofs
theorem qju {α:Type} {f:α→AVal} {Q:α→Prop}:∀ {xs:List AVal},(∀ y∈xs,∃ a,y=f a∧Q a)→∃ l:List α,xs=l.map f∧∀ a∈l,Q a
 | [],_=>⟨[],rfl,by simp⟩
 | y::xs,h=>by
  obtain ⟨a,ha,hq⟩:=h y (List.mem_cons_self ..)
  obtain ⟨l,hl,hr⟩:=qju (f:=f) (Q:=Q) (fun z hz=>h z (List.mem_cons_of_mem _ hz))
  exact ⟨a::l,by rw [ha,hl]; rfl,fun b hb=>by
   rcases List.mem_cons.1 hb with rfl | hb
   ·exact hq
   ·exact hr b hb⟩
def wf9 (x0:List UInt8):Prop:=x0.length≤maxLen
def wf3 (x0:Int):Prop:=(Lit.int .i64 x0).wf=true
def q08 (x0:List UInt8) (x1:Int) (x2:Int):Prop:=wf9 x0∧wf3 x1∧wf3 x2
def q5i (x0:List UInt8) (x1:List UInt8) (x2:Int) (x3:Int) (x4:Int) (x5:Int) (x6:Int) (x7:Int):Prop:=wf9 x0∧q08 x1 x2 x3∧wf3 x4∧wf3 x5∧wf3 x6∧wf3 x7
def q5o (x0:Option (List qi)):Prop:=(x0.getD []).length≤maxLen∧∀ y∈x0.getD [],q5i y.name y.kd y.pa y.pb y.sa y.sb y.cost y.stock
def q67 (x0:Option (List Int)):Prop:=(x0.getD []).length≤maxLen∧∀ y∈x0.getD [],wf3 y
def q5v (x0:Int) (x1:Int):Prop:=wf3 x0∧wf3 x1
def q0a (x0:Int) (x1:Int) (x2:Int) (x3:Int) (x4:Int):Prop:=wf3 x0∧q5v x1 x2∧q5v x3 x4
def q6k (x0:Option (List ja)):Prop:=(x0.getD []).length≤maxLen∧∀ y∈x0.getD [],q0a y.w y.ln y.ld y.mn y.md
def jri (x0:Option (List qi)) (x1:Option (List Int)) (x2:Option (List ja)):Prop:=q5o x0∧q67 x1∧q6k x2
theorem rt9 {n:Nat} {cs:List AVal} (h:zo Tryz.prog (n + 1) 9 cs):∃ (x0:List UInt8),cs=[.str x0]∧wf9 x0:=by
 simp only [zo,Tryz.underlying9] at h
 exact h
theorem rt3 {n:Nat} {cs:List AVal} (h:zo Tryz.prog (n + 1) 3 cs):∃ (x0:Int),cs=[.int .i64 x0]∧wf3 x0:=by
 simp only [zo,Tryz.underlying3] at h
 exact h
theorem jb6 {n:Nat} {cs:List AVal} (h:zo Tryz.prog (n + 2) 23 cs):∃ (x0:List UInt8) (x1:Int) (x2:Int),cs=[.str x0,.int .i64 x1,.int .i64 x2]∧q08 x0 x1 x2:=by
 rw [zo] at h
 simp only [Tryz.underlying23] at h
 obtain ⟨ys0,zs0,rfl,g0,k0⟩:=h
 obtain ⟨x0,rfl,w0⟩:=rt9 g0
 obtain ⟨ys1,zs1,rfl,g1,k1⟩:=k0
 obtain ⟨x1,rfl,w1⟩:=rt3 g1
 obtain ⟨ys2,zs2,rfl,g2,k2⟩:=k1
 obtain ⟨x2,rfl,w2⟩:=rt3 g2
 rw [show zs2=[] from k2]
 exact ⟨x0,x1,x2,rfl,w0,w1,w2⟩
theorem jpt {n:Nat} {cs:List AVal} (h:zo Tryz.prog (n + 3) 25 cs):∃ (x0:List UInt8) (x1:List UInt8) (x2:Int) (x3:Int) (x4:Int) (x5:Int) (x6:Int) (x7:Int),cs=[.str x0,.str x1,.int .i64 x2,.int .i64 x3,.int .i64 x4,.int .i64 x5,.int .i64 x6,.int .i64 x7]∧q5i x0 x1 x2 x3 x4 x5 x6 x7:=by
 rw [zo] at h
 simp only [Tryz.underlying25] at h
 obtain ⟨ys0,zs0,rfl,g0,k0⟩:=h
 obtain ⟨x0,rfl,w0⟩:=rt9 g0
 obtain ⟨ys1,zs1,rfl,g1,k1⟩:=k0
 obtain ⟨x1,x2,x3,rfl,w1⟩:=jb6 g1
 obtain ⟨ys2,zs2,rfl,g2,k2⟩:=k1
 obtain ⟨x4,rfl,w2⟩:=rt3 g2
 obtain ⟨ys3,zs3,rfl,g3,k3⟩:=k2
 obtain ⟨x5,rfl,w3⟩:=rt3 g3
 obtain ⟨ys4,zs4,rfl,g4,k4⟩:=k3
 obtain ⟨x6,rfl,w4⟩:=rt3 g4
 obtain ⟨ys5,zs5,rfl,g5,k5⟩:=k4
 obtain ⟨x7,rfl,w5⟩:=rt3 g5
 rw [show zs5=[] from k5]
 exact ⟨x0,x1,x2,x3,x4,x5,x6,x7,rfl,w0,w1,w2,w3,w4,w5⟩
theorem jr4:qdj Tryz.prog 25=true:=by kernel_rfl
theorem jqm:Tryz.prog.cellsOf 25=8:=by kernel_rfl
theorem joy {n:Nat} {cs:List AVal} (h:zo Tryz.prog (n + 4) 26 cs):∃ (x0:Option (List qi)),cs=[sl 8 qn x0]∧q5o x0:=by
 rw [zo] at h
 simp only [Tryz.underlying26] at h
 rcases h with h | ⟨xs,h,hln,hx⟩
 ·exact ⟨none,h,by simp [q5o]⟩
 ·obtain ⟨l,hl,hq⟩:=qju (f:=qn) (Q:=fun y=>q5i y.name y.kd y.pa y.pb y.sa y.sb y.cost y.stock) (xs:=xs) (fun y hy=>by
   obtain ⟨h1,h2⟩:=hx y hy
   rw [jr4] at h2
   obtain ⟨y0,y1,y2,y3,y4,y5,y6,y7,hm,hq⟩:=jpt h1
   exact ⟨⟨y0,y1,y2,y3,y4,y5,y6,y7⟩,by rw [qhh h2,hm]; rfl,hq⟩)
  exact ⟨some l,by rw [h,hl,jqm]; rfl,by rw [hl,List.length_map] at hln; exact ⟨hln,hq⟩⟩
theorem tA3:qdj Tryz.prog 3=false:=by kernel_rfl
theorem tC3:Tryz.prog.cellsOf 3=1:=by kernel_rfl
theorem jqe {n:Nat} {cs:List AVal} (h:zo Tryz.prog (n + 2) 48 cs):∃ (x0:Option (List Int)),cs=[sl 1 qu x0]∧q67 x0:=by
 rw [zo] at h
 simp only [Tryz.underlying48] at h
 rcases h with h | ⟨xs,h,hln,hx⟩
 ·exact ⟨none,h,by simp [q67]⟩
 ·obtain ⟨l,hl,hq⟩:=qju (f:=qu) (Q:=fun y=>wf3 y) (xs:=xs) (fun y hy=>by
   obtain ⟨h1,h2⟩:=hx y hy
   rw [tA3] at h2
   obtain ⟨y0,hm,hq⟩:=rt3 h1
   rw [qb7 h2] at hm
   exact ⟨y0,(List.cons.inj hm).1,hq⟩)
  exact ⟨some l,by rw [h,hl,tC3]; rfl,by rw [hl,List.length_map] at hln; exact ⟨hln,hq⟩⟩
theorem jcn {n:Nat} {cs:List AVal} (h:zo Tryz.prog (n + 2) 53 cs):∃ (x0:Int) (x1:Int),cs=[.int .i64 x0,.int .i64 x1]∧q5v x0 x1:=by
 rw [zo] at h
 simp only [Tryz.underlying53] at h
 obtain ⟨ys0,zs0,rfl,g0,k0⟩:=h
 obtain ⟨x0,rfl,w0⟩:=rt3 g0
 obtain ⟨ys1,zs1,rfl,g1,k1⟩:=k0
 obtain ⟨x1,rfl,w1⟩:=rt3 g1
 rw [show zs1=[] from k1]
 exact ⟨x0,x1,rfl,w0,w1⟩
theorem jgc {n:Nat} {cs:List AVal} (h:zo Tryz.prog (n + 3) 107 cs):∃ (x0:Int) (x1:Int) (x2:Int) (x3:Int) (x4:Int),cs=[.int .i64 x0,.int .i64 x1,.int .i64 x2,.int .i64 x3,.int .i64 x4]∧q0a x0 x1 x2 x3 x4:=by
 rw [zo] at h
 simp only [Tryz.underlying107] at h
 obtain ⟨ys0,zs0,rfl,g0,k0⟩:=h
 obtain ⟨x0,rfl,w0⟩:=rt3 g0
 obtain ⟨ys1,zs1,rfl,g1,k1⟩:=k0
 obtain ⟨x1,x2,rfl,w1⟩:=jcn g1
 obtain ⟨ys2,zs2,rfl,g2,k2⟩:=k1
 obtain ⟨x3,x4,rfl,w2⟩:=jcn g2
 rw [show zs2=[] from k2]
 exact ⟨x0,x1,x2,x3,x4,rfl,w0,w1,w2⟩
theorem ji3:qdj Tryz.prog 107=true:=by kernel_rfl
theorem jic:Tryz.prog.cellsOf 107=5:=by kernel_rfl
theorem jss {n:Nat} {cs:List AVal} (h:zo Tryz.prog (n + 4) 49 cs):∃ (x0:Option (List ja)),cs=[sl 5 jd x0]∧q6k x0:=by
 rw [zo] at h
 simp only [Tryz.underlying49] at h
 rcases h with h | ⟨xs,h,hln,hx⟩
 ·exact ⟨none,h,by simp [q6k]⟩
 ·obtain ⟨l,hl,hq⟩:=qju (f:=jd) (Q:=fun y=>q0a y.w y.ln y.ld y.mn y.md) (xs:=xs) (fun y hy=>by
   obtain ⟨h1,h2⟩:=hx y hy
   rw [ji3] at h2
   obtain ⟨y0,y1,y2,y3,y4,hm,hq⟩:=jgc h1
   exact ⟨⟨y0,y1,y2,y3,y4⟩,by rw [qhh h2,hm]; rfl,hq⟩)
  exact ⟨some l,by rw [h,hl,jic]; rfl,by rw [hl,List.length_map] at hln; exact ⟨hln,hq⟩⟩
theorem jqp {n:Nat} {cs:List AVal} (h:zo Tryz.prog (n + 5) 51 cs):∃ (x0:Option (List qi)) (x1:Option (List Int)) (x2:Option (List ja)),cs=[sl 8 qn x0,sl 1 qu x1,sl 5 jd x2]∧jri x0 x1 x2:=by
 rw [zo] at h
 simp only [Tryz.underlying51] at h
 obtain ⟨ys0,zs0,rfl,g0,k0⟩:=h
 obtain ⟨x0,rfl,w0⟩:=joy g0
 obtain ⟨ys1,zs1,rfl,g1,k1⟩:=k0
 obtain ⟨x1,rfl,w1⟩:=jqe g1
 obtain ⟨ys2,zs2,rfl,g2,k2⟩:=k1
 obtain ⟨x2,rfl,w2⟩:=jss g2
 rw [show zs2=[] from k2]
 exact ⟨x0,x1,x2,rfl,w0,w1,w2⟩
def q50 (x0:Option (List GEl)):Prop:=(x0.getD []).length≤maxLen∧∀ y∈x0.getD [],q08 y.kind y.a y.b
def jij (x0:Int) (x1:Option (List GEl)):Prop:=wf3 x0∧q50 x1
theorem js3:qdj Tryz.prog 23=true:=by kernel_rfl
theorem jsb:Tryz.prog.cellsOf 23=3:=by kernel_rfl
theorem jqk {n:Nat} {cs:List AVal} (h:zo Tryz.prog (n + 3) 38 cs):∃ (x0:Option (List GEl)),cs=[sl 3 vel x0]∧q50 x0:=by
 rw [zo] at h
 simp only [Tryz.underlying38] at h
 rcases h with h | ⟨xs,h,hln,hx⟩
 ·exact ⟨none,h,by simp [q50]⟩
 ·obtain ⟨l,hl,hq⟩:=qju (f:=vel) (Q:=fun y=>q08 y.kind y.a y.b) (xs:=xs) (fun y hy=>by
   obtain ⟨h1,h2⟩:=hx y hy
   rw [js3] at h2
   obtain ⟨y0,y1,y2,hm,hq⟩:=jb6 h1
   exact ⟨⟨y0,y1,y2⟩,by rw [qhh h2,hm]; rfl,hq⟩)
  exact ⟨some l,by rw [h,hl,jsb]; rfl,by rw [hl,List.length_map] at hln; exact ⟨hln,hq⟩⟩
theorem jio {n:Nat} {cs:List AVal} (h:zo Tryz.prog (n + 4) 138 cs):∃ (x0:Int) (x1:Option (List GEl)),cs=[.int .i64 x0,sl 3 vel x1]∧jij x0 x1:=by
 rw [zo] at h
 simp only [Tryz.underlying138] at h
 obtain ⟨ys0,zs0,rfl,g0,k0⟩:=h
 obtain ⟨x0,rfl,w0⟩:=rt3 g0
 obtain ⟨ys1,zs1,rfl,g1,k1⟩:=k0
 obtain ⟨x1,rfl,w1⟩:=jqk g1
 rw [show zs1=[] from k1]
 exact ⟨x0,x1,rfl,w0,w1⟩
theorem jqw:qdj Tryz.prog 51=true:=by kernel_rfl
theorem jhs:qdj Tryz.prog 138=true:=by kernel_rfl
theorem jh3 (xs:List AVal) (h:qlc Tryz.prog 7 Tryz.f11.params.toList xs):ko Tryz.prog 11 xs (.bool true) false:=by
 rw [Tryz.params11] at h
 obtain ⟨y0,ys0,rfl,h0,h⟩:=h
 obtain ⟨y1,ys1,rfl,h1,h⟩:=h
 rw [show ys1=[] from h]
 obtain ⟨g0,k0⟩:=h0
 rw [jqw] at k0
 obtain ⟨p0_0,p0_1,p0_2,e0,q0⟩:=jqp g0
 obtain ⟨g1,k1⟩:=h1
 rw [jhs] at k1
 obtain ⟨p1_0,p1_1,e1,q1⟩:=jio g1
 rw [qhh k0,e0,qhh k1,e1]
 exact qp1 okZ (I11 ⟨p0_0,p0_1,p0_2⟩ ⟨p1_0,p1_1⟩) (by simp only [go_sem,seval])
end Go.Z
namespace Go.Proofs.YtnjngdcbkkonnaaGreatDoor
open Go Go.Abs Go.Z Go.RowKit
theorem q95 {W:World} (hsh:W.ShapedOpen Tryz.prog) (h:laidMetH Tryz.prog Rows.crossoverFaultsRow.laid W):Tabs Tryz.prog W:=by
 rw [MakeChecks.laidMetH_plain _ _ _ (by kernel_rfl)] at h
 exact q8f (List.mem_of_getElem? (i:=2) (by kernel_rfl)) (List.mem_of_getElem? (i:=3) (by kernel_rfl)) (List.mem_of_getElem? (i:=4) (by kernel_rfl)) hsh h
theorem qvg (os:Os) (started:os.Started) (H:Type) (enc:TypeId × Value→H):
  ReturnsInHanded {} Tryz.checked os 11 .any (fun w args=>(Rows.crossoverFaultsSpec.pre enc Tryz.prog Tryz.f11 Rows.crossoverFaultsRow.domain false w args∧laidMetH Tryz.prog Rows.crossoverFaultsRow.laid w)∧sizedMet enc Tryz.prog Tryz.f11 (OpenSpec.ofChange Rows.crossoverFaultsSpec) false w args) (Rows.crossoverFaultsSpec.post enc Tryz.prog Tryz.f11 false true false false):=
 qqd (C:=Tryz.checked) (laid:=Rows.crossoverFaultsRow.laid) 7 4 (fun _ _ hh h=>h.of_heap hh) jin started (by kernel_rfl) Tryz.func11
  (ChangeSpec.witness_shaped (enc:=enc) (C:=Tryz.checked) (os:=os) (X:=fun w _=>laidMetH Tryz.prog Rows.crossoverFaultsRow.laid w) false (World.laidAll Tryz.prog os Rows.crossoverFaultsRow.laid) #[.agg #[.slice none 0 0,.slice none 0 0,.slice none 0 0],.agg #[.int .i64 0,.slice none 0 0]] 8 (World.laidAll_os _ _ _)
   (World.shaped_of_ZipB (by kernel_rfl) (by kernel_rfl)) (by kernel_rfl) (by kernel_rfl) (by kernel_rfl)
   (by rw [MakeChecks.laidMetH_plain _ _ _ (by kernel_rfl)]; exact laidMet_laidAll _ (by kernel_rfl) (by kernel_rfl)))
  rfl rfl Tryz.underlying4 q2w (by kernel_rfl) (by kernel_rfl)
  (fun ds hd=>by
   rw [Tryz.params11] at hd
   match ds,hd with
   | [d1,d2],_=>exact ⟨rfl,rfl,rfl⟩)
  jh3 (fun W hsh h=>q95 hsh h)
theorem qmg:Rows.CrossoverFaultsSaid:=
 OpenClaim.holds_of_wide 11 Tryz.f11 rfl rfl rfl rfl rfl rfl rfl ⟨rfl,rfl,rfl,rfl,rfl⟩ rfl rfl rfl rfl rfl c11_named2 Tryz.func11 q0x q6j q55
  (fun os started H enc _=>qvg os started H enc)
theorem crossoverFaults_holds:Rows.CrossoverFaultsCardSaid:=
 Claim7.holds_tied_plain_at .later [] [.data, .data, .data, .data, .data] true (true, "1b137b5074cd62955587cfa04bcaa679776963b89422bbb2bd8fd54760d6b645") false
  qmg (fun _ h=>by cases h) qz4 (fun _ h=>by cases h) crossoverFaults_row_tie rfl ⟨rfl,rfl⟩ ja9 rfl
  (fun f fn hf hfn=>by
   obtain rfl:f=11:=Option.some.inj (c11_named2.symm.trans hf) |>.symm
   obtain rfl:fn=Tryz.f11:=(Option.some.inj (Tryz.func11.symm.trans hfn)).symm
   exact ⟨q87,fun j t ht=>by
    rw [Tryz.params11] at ht
    have hm:t∈[51,138]:=by simpa using Array.mem_of_getElem? ht
    have hall:([51,138].all fun u=>!Tryz.prog.wantsStandIn u)=true:=by kernel_rfl
    exact (show Tryz.prog.wantsStandIn t=false by simpa using List.all_eq_true.1 hall t hm)⟩)
  q5a
end Go.Proofs.YtnjngdcbkkonnaaGreatDoor
