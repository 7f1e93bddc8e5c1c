/-
  WorksTorn returns true for every input, and each argument reads afterwards as it read before (the statement Rows.WorksTornSaid). No conditions.
-/
import Derived.Test.YtlhfdilpecnjeaaGreatDoorTL4
import Derived.Test.YtlhfdilpecnjeaaGreatDoorPC4
set_option linter.unusedVariables false
set_option linter.unusedSimpArgs false
set_option maxRecDepth 100000
namespace Go.Z
open Go Go.Abs Go.Proofs
theorem qtz {α:Type} {f:α→AVal}:∀ {xs:List AVal},(∀ y∈xs,∃ a,y=f a)→∃ l:List α,xs=l.map f
 | [],_=>⟨[],rfl⟩
 | y::xs,h=>by
  obtain ⟨a,rfl⟩:=h y (List.mem_cons_self ..)
  obtain ⟨l,rfl⟩:=qtz (f:=f) (fun z hz=>h z (List.mem_cons_of_mem _ hz))
  exact ⟨a::l,rfl⟩
theorem rt3 {n:Nat} {cs:List AVal} (h:yw Tryz.prog (n + 1) 3 cs):∃ (x0:Int),cs=[.int .i64 x0]:=by
 simp only [yw,Tryz.underlying3] at h
 obtain ⟨x,h,-⟩:=h
 exact ⟨x,h⟩
theorem rt9 {n:Nat} {cs:List AVal} (h:yw Tryz.prog (n + 1) 9 cs):∃ (x0:List UInt8),cs=[.str x0]:=by
 simp only [yw,Tryz.underlying9] at h
 obtain ⟨x,h,-⟩:=h
 exact ⟨x,h⟩
theorem tA9:qhn Tryz.prog 9=false:=by kernel_rfl
theorem tC9:Tryz.prog.cellsOf 9=1:=by kernel_rfl
theorem zds {n:Nat} {cs:List AVal} (h:yw Tryz.prog (n + 2) 22 cs):∃ (x0:Option (List (List UInt8))),cs=[sl 1 jf x0]:=by
 rw [yw] at h
 simp only [Tryz.underlying22] at h
 rcases h with h | ⟨xs,h,-,hx⟩
 ·exact ⟨none,h⟩
 ·obtain ⟨l,rfl⟩:=qtz (f:=jf) (fun y hy=>by
   obtain ⟨h1,h2⟩:=hx y hy
   rw [tA9] at h2
   obtain ⟨y0,hm⟩:=rt9 h1
   rw [qcg h2] at hm
   exact ⟨y0,(List.cons.inj hm).1⟩)
  exact ⟨some l,by rw [h,tC9]; rfl⟩
theorem tA3:qhn Tryz.prog 3=false:=by kernel_rfl
theorem tC3:Tryz.prog.cellsOf 3=1:=by kernel_rfl
theorem zi0 {n:Nat} {cs:List AVal} (h:yw Tryz.prog (n + 2) 38 cs):∃ (x0:Option (List Int)),cs=[sl 1 jt x0]:=by
 rw [yw] at h
 simp only [Tryz.underlying38] at h
 rcases h with h | ⟨xs,h,-,hx⟩
 ·exact ⟨none,h⟩
 ·obtain ⟨l,rfl⟩:=qtz (f:=jt) (fun y hy=>by
   obtain ⟨h1,h2⟩:=hx y hy
   rw [tA3] at h2
   obtain ⟨y0,hm⟩:=rt3 h1
   rw [qcg h2] at hm
   exact ⟨y0,(List.cons.inj hm).1⟩)
  exact ⟨some l,by rw [h,tC3]; rfl⟩
theorem zd5 {n:Nat} {cs:List AVal} (h:yw Tryz.prog (n + 3) 40 cs):∃ (x0:Int) (x1:List UInt8) (x2:Option (List (List UInt8))) (x3:Option (List Int)) (x4:List UInt8),cs=[.int .i64 x0,.str x1,sl 1 jf x2,sl 1 jt x3,.str x4]:=by
 rw [yw] at h
 simp only [Tryz.underlying40] at h
 obtain ⟨ys0,zs0,rfl,g0,k0⟩:=h
 obtain ⟨x0,rfl⟩:=rt3 g0
 obtain ⟨ys1,zs1,rfl,g1,k1⟩:=k0
 obtain ⟨x1,rfl⟩:=rt9 g1
 obtain ⟨ys2,zs2,rfl,g2,k2⟩:=k1
 obtain ⟨x2,rfl⟩:=zds g2
 obtain ⟨ys3,zs3,rfl,g3,k3⟩:=k2
 obtain ⟨x3,rfl⟩:=zi0 g3
 obtain ⟨ys4,zs4,rfl,g4,k4⟩:=k3
 obtain ⟨x4,rfl⟩:=rt9 g4
 rw [show zs4=[] from k4]
 exact ⟨x0,x1,x2,x3,x4,rfl⟩
theorem zho:qhn Tryz.prog 40=true:=by kernel_rfl
theorem zgg:Tryz.prog.cellsOf 40=5:=by kernel_rfl
theorem zhu {n:Nat} {cs:List AVal} (h:yw Tryz.prog (n + 4) 24 cs):∃ (x0:Option (List GEv)),cs=[sl 5 vev x0]:=by
 rw [yw] at h
 simp only [Tryz.underlying24] at h
 rcases h with h | ⟨xs,h,-,hx⟩
 ·exact ⟨none,h⟩
 ·obtain ⟨l,rfl⟩:=qtz (f:=vev) (fun y hy=>by
   obtain ⟨h1,h2⟩:=hx y hy
   rw [zho] at h2
   obtain ⟨y0,y1,y2,y3,y4,hm⟩:=zd5 h1
   exact ⟨⟨y0,y1,y2,y3,y4⟩,by rw [q9o h2,hm]; rfl⟩)
  exact ⟨some l,by rw [h,zgg]; rfl⟩
def jgi (x0:Int):Prop:=(Lit.int .u16 x0).wf=true
def zem (x0:Int) (x1:Int) (x2:Int):Prop:=jgi x0∧jgi x1∧jgi x2
theorem jpn {n:Nat} {cs:List AVal} (h:yw Tryz.prog (n + 1) 50 cs):∃ (x0:Int),cs=[.int .u16 x0]∧jgi x0:=by
 simp only [yw,Tryz.underlying50] at h
 exact h
theorem zdf {n:Nat} {cs:List AVal} (h:yw Tryz.prog (n + 2) 51 cs):∃ (x0:Int) (x1:Int) (x2:Int),cs=[.int .u16 x0,.int .u16 x1,.int .u16 x2]∧zem x0 x1 x2:=by
 rw [yw] at h
 simp only [Tryz.underlying51] at h
 obtain ⟨ys0,zs0,rfl,g0,k0⟩:=h
 obtain ⟨x0,rfl,w0⟩:=jpn g0
 obtain ⟨ys1,zs1,rfl,g1,k1⟩:=k0
 obtain ⟨x1,rfl,w1⟩:=jpn g1
 obtain ⟨ys2,zs2,rfl,g2,k2⟩:=k1
 obtain ⟨x2,rfl,w2⟩:=jpn g2
 rw [show zs2=[] from k2]
 exact ⟨x0,x1,x2,rfl,w0,w1,w2⟩
theorem zh2:qhn Tryz.prog 24=false:=by kernel_rfl
theorem ze5:qhn Tryz.prog 51=true:=by kernel_rfl
theorem zf9 (xs:List AVal) (h:qrl Tryz.prog 6 Tryz.f4.params.toList xs):IsoCall Tryz.prog 4 xs (.bool true) false:=by
 rw [Tryz.params4] at h
 obtain ⟨y0,ys0,rfl,h0,h⟩:=h
 obtain ⟨y1,ys1,rfl,h1,h⟩:=h
 rw [show ys1=[] from h]
 obtain ⟨g0,k0⟩:=h0
 rw [zh2] at k0
 obtain ⟨p0_0,e0⟩:=zhu g0
 rw [qcg k0] at e0
 obtain rfl:y0=sl 5 vev p0_0:=(List.cons.inj e0).1
 obtain ⟨g1,k1⟩:=h1
 rw [ze5] at k1
 obtain ⟨p1_0,p1_1,p1_2,e1,q1⟩:=zdf g1
 rw [q9o k1,e1]
 exact q97 okS (I4 p0_0 ⟨p1_0,p1_1,p1_2⟩ (q0w q1.1) (q0w q1.2.1) (q0w q1.2.2)) (by simp only [go_sem,seval])
end Go.Z
namespace Go.Proofs.YtlhfdilpecnjeaaGreatDoor
open Go Go.Abs Go.Z Go.RowKit
theorem jt9 {W:World} (hsh:W.ShapedOpen Tryz.prog) (h:laidMetH Tryz.prog Rows.worksTornRow.laid W):Tabs Tryz.prog W:=by
 rw [MakeChecks.laidMetH_plain _ _ _ (by kernel_rfl)] at h
 exact jsn (List.mem_of_getElem? (i:=2) (by kernel_rfl)) hsh h
theorem jao (os:Os) (started:os.Started) (H:Type) (enc:TypeId × Value→H):
  ReturnsInHanded {} Tryz.checked os 4 .any (fun w args=>(Rows.worksTornSpec.pre enc Tryz.prog Tryz.f4 Rows.worksTornRow.domain false w args∧laidMetH Tryz.prog Rows.worksTornRow.laid w)∧sizedMet enc Tryz.prog Tryz.f4 (OpenSpec.ofChange Rows.worksTornSpec) false w args) (Rows.worksTornSpec.post enc Tryz.prog Tryz.f4 false true false false):=
 qxz (C:=Tryz.checked) (laid:=Rows.worksTornRow.laid) 6 4 (fun _ _ hh h=>h.of_heap hh) j8c started (by kernel_rfl) Tryz.func4
  (ChangeSpec.witness_shaped (enc:=enc) (C:=Tryz.checked) (os:=os) (X:=fun w _=>laidMetH Tryz.prog Rows.worksTornRow.laid w) false (World.laidAll Tryz.prog os Rows.worksTornRow.laid) #[.slice none 0 0,.agg #[.int .u16 0,.int .u16 0,.int .u16 0]] 8 (World.laidAll_os _ _ _)
   (World.shaped_of_ZipB (by kernel_rfl) (by kernel_rfl)) (by kernel_rfl) (by kernel_rfl) (by kernel_rfl)
   (by rw [MakeChecks.laidMetH_plain _ _ _ (by kernel_rfl)]; exact laidMet_laidAll _ (by kernel_rfl) (by kernel_rfl)))
  rfl rfl Tryz.underlying4 jhr (by kernel_rfl) (by kernel_rfl)
  (fun ds hd=>by
   rw [Tryz.params4] at hd
   match ds,hd with
   | [d1,d2],_=>exact ⟨rfl,rfl,rfl⟩)
  zf9 (fun W hsh h=>jt9 hsh h)
theorem q5d:Rows.WorksTornSaid:=
 OpenClaim.holds_of_wide 4 Tryz.f4 rfl rfl rfl rfl rfl rfl rfl ⟨rfl,rfl,rfl,rfl,rfl⟩ rfl rfl rfl rfl rfl c4_named2 Tryz.func4 jjb jux jr4
  (fun os started H enc _=>jao os started H enc)
theorem worksTorn_holds:Rows.WorksTornCardSaid:=
 Claim7.holds_tied_plain_at .later [] [.data, .data, .data, .data, .pinned] true (true, "6ebe9f5257bc28bbdf1043ac69240590c05c4215ff9701c5d64b0de29936156d") false
  q5d (fun _ h=>by cases h) jh7 (fun _ h=>by cases h) worksTorn_row_tie rfl ⟨rfl,rfl⟩ j2h rfl
  (fun f fn hf hfn=>by
   obtain rfl:f=4:=Option.some.inj (c4_named2.symm.trans hf) |>.symm
   obtain rfl:fn=Tryz.f4:=(Option.some.inj (Tryz.func4.symm.trans hfn)).symm
   exact ⟨jve,fun j t ht=>by
    rw [Tryz.params4] at ht
    have hm:t∈[24,51]:=by simpa using Array.mem_of_getElem? ht
    have hall:([24,51].all fun u=>!Tryz.prog.wantsStandIn u)=true:=by kernel_rfl
    exact (show Tryz.prog.wantsStandIn t=false by simpa using List.all_eq_true.1 hall t hm)⟩)
  js6
end Go.Proofs.YtlhfdilpecnjeaaGreatDoor
