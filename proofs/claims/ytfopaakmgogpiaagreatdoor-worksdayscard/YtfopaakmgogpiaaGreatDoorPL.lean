/-
  WorksDays returns true for every input, and each argument reads afterwards as it read before (the statement Rows.WorksDaysSaid). No conditions.
-/
import Derived.Test.YtfopaakmgogpiaaGreatDoorEI
import Derived.Test.YtfopaakmgogpiaaGreatDoorPC
set_option maxRecDepth 100000
namespace Go.Z
open Go Go.Abs Go.Proofs
theorem qti {α:Type} {f:α→qa} {Q:α→Prop}:∀ {xs:List qa},(∀ y∈xs,∃ a,y=f a∧Q a)→∃ l:List α,xs=l.map f∧∀ a∈l,Q a
 | [],_=>⟨[],rfl,by simp⟩
 | y::xs,h=>by
  obtain ⟨a,ha,hq⟩:=h y (List.mem_cons_self ..)
  obtain ⟨l,hl,hr⟩:=qti (f:=f) (Q:=Q) (fun z hz=>h z (List.mem_cons_of_mem _ hz))
  exact ⟨a::l,by rw [ha,hl]; rfl,fun b hb=>by
   rcases List.mem_cons.1 hb with rfl | hb
   ·exact hq
   ·exact hr b hb⟩
def wf3 (x0:Int):Prop:=(Lit.int .i64 x0).wf=true
def wf9 (x0:List UInt8):Prop:=x0.length≤maxLen
def ji7 (x0:Option (List (List UInt8))):Prop:=(x0.getD []).length≤maxLen∧∀ y∈x0.getD [],wf9 y
def jg8 (x0:Option (List Int)):Prop:=(x0.getD []).length≤maxLen∧∀ y∈x0.getD [],wf3 y
def jg4 (x0:Int) (x1:List UInt8) (x2:Option (List (List UInt8))) (x3:Option (List Int)) (x4:List UInt8):Prop:=wf3 x0∧wf9 x1∧ji7 x2∧jg8 x3∧wf9 x4
def jp6 (x0:Option (List qm)):Prop:=(x0.getD []).length≤maxLen∧∀ y∈x0.getD [],jg4 y.number y.kind y.names y.values y.text
theorem rt3 {n:Nat} {cs:List qa} (h:qaw Tryz.prog (n + 1) 3 cs):∃ (x0:Int),cs=[.int .i64 x0]∧wf3 x0:=by
 simp only [qaw,Tryz.underlying3] at h
 exact h
theorem rt9 {n:Nat} {cs:List qa} (h:qaw Tryz.prog (n + 1) 9 cs):∃ (x0:List UInt8),cs=[.str x0]∧wf9 x0:=by
 simp only [qaw,Tryz.underlying9] at h
 exact h
theorem tA9:qho Tryz.prog 9=false:=by kernel_rfl
theorem tC9:Tryz.prog.cellsOf 9=1:=by kernel_rfl
theorem zdg {n:Nat} {cs:List qa} (h:qaw Tryz.prog (n + 2) 23 cs):∃ (x0:Option (List (List UInt8))),cs=[sl 1 qag x0]∧ji7 x0:=by
 rw [qaw] at h
 simp only [Tryz.underlying23] at h
 rcases h with h | ⟨xs,h,hln,hx⟩
 ·exact ⟨none,h,by simp [ji7]⟩
 ·obtain ⟨l,hl,hq⟩:=qti (f:=qag) (Q:=fun y=>wf9 y) (xs:=xs) (fun y hy=>by
   obtain ⟨h1,h2⟩:=hx y hy
   rw [tA9] at h2
   obtain ⟨y0,hm,hq⟩:=rt9 h1
   rw [qcf h2] at hm
   exact ⟨y0,(List.cons.inj hm).1,hq⟩)
  exact ⟨some l,by rw [h,hl,tC9]; rfl,by rw [hl,List.length_map] at hln; exact ⟨hln,hq⟩⟩
theorem tA3:qho Tryz.prog 3=false:=by kernel_rfl
theorem tC3:Tryz.prog.cellsOf 3=1:=by kernel_rfl
theorem zid {n:Nat} {cs:List qa} (h:qaw Tryz.prog (n + 2) 24 cs):∃ (x0:Option (List Int)),cs=[sl 1 kw x0]∧jg8 x0:=by
 rw [qaw] at h
 simp only [Tryz.underlying24] at h
 rcases h with h | ⟨xs,h,hln,hx⟩
 ·exact ⟨none,h,by simp [jg8]⟩
 ·obtain ⟨l,hl,hq⟩:=qti (f:=kw) (Q:=fun y=>wf3 y) (xs:=xs) (fun y hy=>by
   obtain ⟨h1,h2⟩:=hx y hy
   rw [tA3] at h2
   obtain ⟨y0,hm,hq⟩:=rt3 h1
   rw [qcf h2] at hm
   exact ⟨y0,(List.cons.inj hm).1,hq⟩)
  exact ⟨some l,by rw [h,hl,tC3]; rfl,by rw [hl,List.length_map] at hln; exact ⟨hln,hq⟩⟩
theorem zg3 {n:Nat} {cs:List qa} (h:qaw Tryz.prog (n + 3) 26 cs):∃ (x0:Int) (x1:List UInt8) (x2:Option (List (List UInt8))) (x3:Option (List Int)) (x4:List UInt8),cs=[.int .i64 x0,.str x1,sl 1 qag x2,sl 1 kw x3,.str x4]∧jg4 x0 x1 x2 x3 x4:=by
 rw [qaw] at h
 simp only [Tryz.underlying26] at h
 obtain ⟨ys0,zs0,rfl,g0,k0⟩:=h
 obtain ⟨x0,rfl,w0⟩:=rt3 g0
 obtain ⟨ys1,zs1,rfl,g1,k1⟩:=k0
 obtain ⟨x1,rfl,w1⟩:=rt9 g1
 obtain ⟨ys2,zs2,rfl,g2,k2⟩:=k1
 obtain ⟨x2,rfl,w2⟩:=zdg g2
 obtain ⟨ys3,zs3,rfl,g3,k3⟩:=k2
 obtain ⟨x3,rfl,w3⟩:=zid g3
 obtain ⟨ys4,zs4,rfl,g4,k4⟩:=k3
 obtain ⟨x4,rfl,w4⟩:=rt9 g4
 rw [show zs4=[] from k4]
 exact ⟨x0,x1,x2,x3,x4,rfl,w0,w1,w2,w3,w4⟩
theorem zh0:qho Tryz.prog 26=true:=by kernel_rfl
theorem zaj:Tryz.prog.cellsOf 26=5:=by kernel_rfl
theorem zgb {n:Nat} {cs:List qa} (h:qaw Tryz.prog (n + 4) 22 cs):∃ (x0:Option (List qm)),cs=[sl 5 vev x0]∧jp6 x0:=by
 rw [qaw] at h
 simp only [Tryz.underlying22] at h
 rcases h with h | ⟨xs,h,hln,hx⟩
 ·exact ⟨none,h,by simp [jp6]⟩
 ·obtain ⟨l,hl,hq⟩:=qti (f:=vev) (Q:=fun y=>jg4 y.number y.kind y.names y.values y.text) (xs:=xs) (fun y hy=>by
   obtain ⟨h1,h2⟩:=hx y hy
   rw [zh0] at h2
   obtain ⟨y0,y1,y2,y3,y4,hm,hq⟩:=zg3 h1
   exact ⟨⟨y0,y1,y2,y3,y4⟩,by rw [jgj h2,hm]; rfl,hq⟩)
  exact ⟨some l,by rw [h,hl,zaj]; rfl,by rw [hl,List.length_map] at hln; exact ⟨hln,hq⟩⟩
theorem zal:qho Tryz.prog 22=false:=by kernel_rfl
theorem zbq (xs:List qa) (h:qpp Tryz.prog 6 Tryz.f4.params.toList xs):IsoCall Tryz.prog 4 xs (.bool true) false:=by
 rw [Tryz.params4] at h
 obtain ⟨y0,ys0,rfl,h0,h⟩:=h
 obtain ⟨y1,ys1,rfl,h1,h⟩:=h
 rw [show ys1=[] from h]
 obtain ⟨g0,k0⟩:=h0
 rw [zal] at k0
 obtain ⟨p0_0,e0,q0⟩:=zgb g0
 rw [qcf k0] at e0
 obtain rfl:y0=sl 5 vev p0_0:=(List.cons.inj e0).1
 obtain ⟨g1,k1⟩:=h1
 rw [tA3] at k1
 obtain ⟨p1_0,e1,q1⟩:=rt3 g1
 rw [qcf k1] at e1
 obtain rfl:y1=.int .i64 p1_0:=(List.cons.inj e1).1
 exact q11 okZ (I4 p0_0 p1_0) (by simp only [go_sem,seval])
end Go.Z
namespace Go.Proofs.YtfopaakmgogpiaaGreatDoor
open Go Go.Abs Go.Z Go.RowKit
theorem jm6 {W:World} (hsh:W.ShapedOpen Tryz.prog) (h:laidMetH Tryz.prog Rows.worksDaysRow.laid W):Tabs Tryz.prog W:=by
 rw [MakeChecks.laidMetH_plain _ _ _ (by kernel_rfl)] at h
 exact jk6 (List.mem_of_getElem? (i:=2) (by kernel_rfl)) hsh h
theorem q50 (os:Os) (started:os.Started) (H:Type) (enc:TypeId × Value→H):
  ReturnsInHanded {} Tryz.checked os 4 .any (fun w args=>(Rows.worksDaysSpec.pre enc Tryz.prog Tryz.f4 Rows.worksDaysRow.domain false w args∧laidMetH Tryz.prog Rows.worksDaysRow.laid w)∧sizedMet enc Tryz.prog Tryz.f4 (OpenSpec.ofChange Rows.worksDaysSpec) false w args) (Rows.worksDaysSpec.post enc Tryz.prog Tryz.f4 false true false false):=
 qyh (C:=Tryz.checked) (laid:=Rows.worksDaysRow.laid) 6 4 (fun _ _ hh h=>h.of_heap hh) jxq started (by kernel_rfl) Tryz.func4
  (ChangeSpec.witness_shaped (enc:=enc) (C:=Tryz.checked) (os:=os) (X:=fun w _=>laidMetH Tryz.prog Rows.worksDaysRow.laid w) false (World.laidAll Tryz.prog os Rows.worksDaysRow.laid) #[.slice none 0 0,.int .i64 0] 8 (World.laidAll_os _ _ _)
   (World.shaped_of_ZipB (by kernel_rfl) (by kernel_rfl)) (by kernel_rfl) (by kernel_rfl) (by kernel_rfl)
   (by rw [MakeChecks.laidMetH_plain _ _ _ (by kernel_rfl)]; exact laidMet_laidAll _ (by kernel_rfl) (by kernel_rfl)))
  rfl rfl Tryz.underlying4 jbi (by kernel_rfl) (by kernel_rfl)
  (fun ds hd=>by
   rw [Tryz.params4] at hd
   match ds,hd with
   | [d1,d2],_=>exact ⟨rfl,rfl,rfl⟩)
  zbq (fun W hsh h=>jm6 hsh h)
theorem q0z:Rows.WorksDaysSaid:=
 OpenClaim.holds_of_wide 4 Tryz.f4 rfl rfl rfl rfl rfl rfl rfl ⟨rfl,rfl,rfl,rfl,rfl⟩ rfl rfl rfl rfl rfl c4_named2 Tryz.func4 jch jnc jkz
  (fun os started H enc _=>q50 os started H enc)
theorem worksDays_holds:Rows.WorksDaysCardSaid:=
 Claim7.holds_tied_plain_at .later [] [.data, .data, .data, .data, .pinned] true (true, "6129b98b9c5c6310e220ac45be93c11f79b838ff938c88dd71e495a1e58b721a") false
  q0z (fun _ h=>by cases h) jdg (fun _ h=>by cases h) worksDays_row_tie rfl ⟨rfl,rfl⟩ jot rfl
  (fun f fn hf hfn=>by
   obtain rfl:f=4:=Option.some.inj (c4_named2.symm.trans hf) |>.symm
   obtain rfl:fn=Tryz.f4:=(Option.some.inj (Tryz.func4.symm.trans hfn)).symm
   exact ⟨jmk,fun j t ht=>by
    rw [Tryz.params4] at ht
    have hm:t∈[22,3]:=by simpa using Array.mem_of_getElem? ht
    have hall:([22,3].all fun u=>!Tryz.prog.wantsStandIn u)=true:=by kernel_rfl
    exact (show Tryz.prog.wantsStandIn t=false by simpa using List.all_eq_true.1 hall t hm)⟩)
  jl3
end Go.Proofs.YtfopaakmgogpiaaGreatDoor
