/-
  CrossoverBack returns true for every input, and each argument reads afterwards as it read before (the statement Rows.CrossoverBackSaid). No conditions.
-/
import Derived.Test.YtnjngdcbkkonnaaGreatDoorX20
import Derived.Test.YtnjngdcbkkonnaaGreatDoorPY
import Derived.Test.YtnjngdcbkkonnaaGreatDoorPC
set_option linter.unusedVariables false
set_option linter.unusedSimpArgs false
set_option maxRecDepth 100000
namespace Go.Z
open Go Go.Abs Go.Proofs
theorem qvq {α:Type} {f:α→AVal} {Q:α→Prop}:∀ {xs:List AVal},(∀ y∈xs,∃ a,y=f a∧Q a)→∃ l:List α,xs=l.map f∧∀ a∈l,Q a
 | [],_=>⟨[],rfl,by simp⟩
 | y::xs,h=>by
  obtain ⟨a,ha,hq⟩:=h y (List.mem_cons_self ..)
  obtain ⟨l,hl,hr⟩:=qvq (f:=f) (Q:=Q) (fun z hz=>h z (List.mem_cons_of_mem _ hz))
  exact ⟨a::l,by rw [ha,hl]; rfl,fun b hb=>by
   rcases List.mem_cons.1 hb with rfl | hb
   ·exact hq
   ·exact hr b hb⟩
def wf9 (x0:List UInt8):Prop:=x0.length≤maxLen
def wf3 (x0:Int):Prop:=(Lit.int .i64 x0).wf=true
def q5z (x0:List UInt8) (x1:Int) (x2:Int):Prop:=wf9 x0∧wf3 x1∧wf3 x2
def q1u (x0:List UInt8) (x1:List UInt8) (x2:Int) (x3:Int) (x4:Int) (x5:Int) (x6:Int) (x7:Int):Prop:=wf9 x0∧q5z x1 x2 x3∧wf3 x4∧wf3 x5∧wf3 x6∧wf3 x7
def q79 (x0:Option (List qg)):Prop:=(x0.getD []).length≤maxLen∧∀ y∈x0.getD [],q1u y.name y.kd y.pa y.pb y.sa y.sb y.cost y.stock
theorem rt9 {n:Nat} {cs:List AVal} (h:yc Tryz.prog (n + 1) 9 cs):∃ (x0:List UInt8),cs=[.str x0]∧wf9 x0:=by
 simp only [yc,Tryz.underlying9] at h
 exact h
theorem rt3 {n:Nat} {cs:List AVal} (h:yc Tryz.prog (n + 1) 3 cs):∃ (x0:Int),cs=[.int .i64 x0]∧wf3 x0:=by
 simp only [yc,Tryz.underlying3] at h
 exact h
theorem jkn {n:Nat} {cs:List AVal} (h:yc Tryz.prog (n + 2) 23 cs):∃ (x0:List UInt8) (x1:Int) (x2:Int),cs=[.str x0,.int .i64 x1,.int .i64 x2]∧q5z x0 x1 x2:=by
 rw [yc] at h
 simp only [Tryz.underlying23] at h
 obtain ⟨ys0,zs0,rfl,g0,k0⟩:=h
 obtain ⟨x0,rfl,w0⟩:=rt9 g0
 obtain ⟨ys1,zs1,rfl,g1,k1⟩:=k0
 obtain ⟨x1,rfl,w1⟩:=rt3 g1
 obtain ⟨ys2,zs2,rfl,g2,k2⟩:=k1
 obtain ⟨x2,rfl,w2⟩:=rt3 g2
 rw [show zs2=[] from k2]
 exact ⟨x0,x1,x2,rfl,w0,w1,w2⟩
theorem jjl {n:Nat} {cs:List AVal} (h:yc Tryz.prog (n + 3) 25 cs):∃ (x0:List UInt8) (x1:List UInt8) (x2:Int) (x3:Int) (x4:Int) (x5:Int) (x6:Int) (x7:Int),cs=[.str x0,.str x1,.int .i64 x2,.int .i64 x3,.int .i64 x4,.int .i64 x5,.int .i64 x6,.int .i64 x7]∧q1u x0 x1 x2 x3 x4 x5 x6 x7:=by
 rw [yc] at h
 simp only [Tryz.underlying25] at h
 obtain ⟨ys0,zs0,rfl,g0,k0⟩:=h
 obtain ⟨x0,rfl,w0⟩:=rt9 g0
 obtain ⟨ys1,zs1,rfl,g1,k1⟩:=k0
 obtain ⟨x1,x2,x3,rfl,w1⟩:=jkn g1
 obtain ⟨ys2,zs2,rfl,g2,k2⟩:=k1
 obtain ⟨x4,rfl,w2⟩:=rt3 g2
 obtain ⟨ys3,zs3,rfl,g3,k3⟩:=k2
 obtain ⟨x5,rfl,w3⟩:=rt3 g3
 obtain ⟨ys4,zs4,rfl,g4,k4⟩:=k3
 obtain ⟨x6,rfl,w4⟩:=rt3 g4
 obtain ⟨ys5,zs5,rfl,g5,k5⟩:=k4
 obtain ⟨x7,rfl,w5⟩:=rt3 g5
 rw [show zs5=[] from k5]
 exact ⟨x0,x1,x2,x3,x4,x5,x6,x7,rfl,w0,w1,w2,w3,w4,w5⟩
theorem jh4:qdp Tryz.prog 25=true:=by kernel_rfl
theorem jj6:Tryz.prog.cellsOf 25=8:=by kernel_rfl
theorem jka {n:Nat} {cs:List AVal} (h:yc Tryz.prog (n + 4) 26 cs):∃ (x0:Option (List qg)),cs=[sl 8 qq x0]∧q79 x0:=by
 rw [yc] at h
 simp only [Tryz.underlying26] at h
 rcases h with h | ⟨xs,h,hln,hx⟩
 ·exact ⟨none,h,by simp [q79]⟩
 ·obtain ⟨l,hl,hq⟩:=qvq (f:=qq) (Q:=fun y=>q1u y.name y.kd y.pa y.pb y.sa y.sb y.cost y.stock) (xs:=xs) (fun y hy=>by
   obtain ⟨h1,h2⟩:=hx y hy
   rw [jh4] at h2
   obtain ⟨y0,y1,y2,y3,y4,y5,y6,y7,hm,hq⟩:=jjl h1
   exact ⟨⟨y0,y1,y2,y3,y4,y5,y6,y7⟩,by rw [q1p h2,hm]; rfl,hq⟩)
  exact ⟨some l,by rw [h,hl,jj6]; rfl,by rw [hl,List.length_map] at hln; exact ⟨hln,hq⟩⟩
theorem jhv:qdp Tryz.prog 26=false:=by kernel_rfl
theorem tA9:qdp Tryz.prog 9=false:=by kernel_rfl
theorem jaf (xs:List AVal) (h:qiv Tryz.prog 6 Tryz.f15.params.toList xs):zj Tryz.prog 15 xs (.bool true) false:=by
 rw [Tryz.params15] at h
 obtain ⟨y0,ys0,rfl,h0,h⟩:=h
 obtain ⟨y1,ys1,rfl,h1,h⟩:=h
 rw [show ys1=[] from h]
 obtain ⟨g0,k0⟩:=h0
 rw [jhv] at k0
 obtain ⟨p0_0,e0,q0⟩:=jka g0
 rw [qa7 k0] at e0
 obtain rfl:y0=sl 8 qq p0_0:=(List.cons.inj e0).1
 obtain ⟨g1,k1⟩:=h1
 rw [tA9] at k1
 obtain ⟨p1_0,e1,q1⟩:=rt9 g1
 rw [qa7 k1] at e1
 obtain rfl:y1=.str p1_0:=(List.cons.inj e1).1
 exact qmk okV (I15 p0_0 p1_0) (by simp only [go_sem,seval])
end Go.Z
namespace Go.Proofs.YtnjngdcbkkonnaaGreatDoor
open Go Go.Abs Go.Z Go.RowKit
theorem q4g {W:World} (hsh:W.ShapedOpen Tryz.prog) (h:laidMetH Tryz.prog Rows.crossoverBackRow.laid W):Tabs Tryz.prog W:=by
 rw [MakeChecks.laidMetH_plain _ _ _ (by kernel_rfl)] at h
 exact q39 (List.mem_of_getElem? (i:=2) (by kernel_rfl)) (List.mem_of_getElem? (i:=4) (by kernel_rfl)) (List.mem_of_getElem? (i:=5) (by kernel_rfl)) hsh h
theorem qsj (os:Os) (started:os.Started) (H:Type) (enc:TypeId × Value→H):
  ReturnsInHanded {} Tryz.checked os 15 .any (fun w args=>(Rows.crossoverBackSpec.pre enc Tryz.prog Tryz.f15 Rows.crossoverBackRow.domain false w args∧laidMetH Tryz.prog Rows.crossoverBackRow.laid w)∧sizedMet enc Tryz.prog Tryz.f15 (OpenSpec.ofChange Rows.crossoverBackSpec) false w args) (Rows.crossoverBackSpec.post enc Tryz.prog Tryz.f15 false true false false):=
 qnt (C:=Tryz.checked) (laid:=Rows.crossoverBackRow.laid) 6 4 (fun _ _ hh h=>h.of_heap hh) jfc started (by kernel_rfl) Tryz.func15
  (ChangeSpec.witness_shaped (enc:=enc) (C:=Tryz.checked) (os:=os) (X:=fun w _=>laidMetH Tryz.prog Rows.crossoverBackRow.laid w) false (World.laidAll Tryz.prog os Rows.crossoverBackRow.laid) #[.slice none 0 0,.string ⟨#[]⟩] 8 (World.laidAll_os _ _ _)
   (World.shaped_of_ZipB (by kernel_rfl) (by kernel_rfl)) (by kernel_rfl) (by kernel_rfl) (by kernel_rfl)
   (by rw [MakeChecks.laidMetH_plain _ _ _ (by kernel_rfl)]; exact laidMet_laidAll _ (by kernel_rfl) (by kernel_rfl)))
  rfl rfl Tryz.underlying4 qzk (by kernel_rfl) (by kernel_rfl)
  (fun ds hd=>by
   rw [Tryz.params15] at hd
   match ds,hd with
   | [d1,d2],_=>exact ⟨rfl,rfl,rfl⟩)
  jaf (fun W hsh h=>q4g hsh h)
theorem ql2:Rows.CrossoverBackSaid:=
 OpenClaim.holds_of_wide 15 Tryz.f15 rfl rfl rfl rfl rfl rfl rfl ⟨rfl,rfl,rfl,rfl,rfl⟩ rfl rfl rfl rfl rfl c15_named2 Tryz.func15 qwu q00 q1t
  (fun os started H enc _=>qsj os started H enc)
theorem crossoverBack_holds:Rows.CrossoverBackCardSaid:=
 Claim7.holds_tied_plain_at .later [] [.data, .data, .data, .data, .data, .data, .pinned] true (true, "1b137b5074cd62955587cfa04bcaa679776963b89422bbb2bd8fd54760d6b645") false
  ql2 (fun _ h=>by cases h) qv3 (fun _ h=>by cases h) crossoverBack_row_tie rfl ⟨rfl,rfl⟩ q70 rfl
  (fun f fn hf hfn=>by
   obtain rfl:f=15:=Option.some.inj (c15_named2.symm.trans hf) |>.symm
   obtain rfl:fn=Tryz.f15:=(Option.some.inj (Tryz.func15.symm.trans hfn)).symm
   exact ⟨q4v,fun j t ht=>by
    rw [Tryz.params15] at ht
    have hm:t∈[26,9]:=by simpa using Array.mem_of_getElem? ht
    have hall:([26,9].all fun u=>!Tryz.prog.wantsStandIn u)=true:=by kernel_rfl
    exact (show Tryz.prog.wantsStandIn t=false by simpa using List.all_eq_true.1 hall t hm)⟩)
  q0e
end Go.Proofs.YtnjngdcbkkonnaaGreatDoor
