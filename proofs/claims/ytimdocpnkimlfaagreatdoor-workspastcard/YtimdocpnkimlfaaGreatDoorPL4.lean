/-
  WorksPast returns true for every input, and each argument reads afterwards as it read before (the statement Rows.WorksPastSaid). No conditions.
-/
import Derived.Test.YtimdocpnkimlfaaGreatDoorTL4
import Derived.Test.YtimdocpnkimlfaaGreatDoorPC4
set_option linter.unusedVariables false
set_option linter.unusedSimpArgs false
set_option maxRecDepth 100000
namespace Go.Z
open Go Go.Abs Go.Proofs
theorem qra {α:Type} {f:α→AVal} {Q:α→Prop}:∀ {xs:List AVal},(∀ y∈xs,∃ a,y=f a∧Q a)→∃ l:List α,xs=l.map f∧∀ a∈l,Q a
 | [],_=>⟨[],rfl,by simp⟩
 | y::xs,h=>by
  obtain ⟨a,ha,hq⟩:=h y (List.mem_cons_self ..)
  obtain ⟨l,hl,hr⟩:=qra (f:=f) (Q:=Q) (fun z hz=>h z (List.mem_cons_of_mem _ hz))
  exact ⟨a::l,by rw [ha,hl]; rfl,fun b hb=>by
   rcases List.mem_cons.1 hb with rfl | hb
   ·exact hq
   ·exact hr b hb⟩
def wf3 (x0:Int):Prop:=(Lit.int .i64 x0).wf=true
def wf9 (x0:List UInt8):Prop:=x0.length≤maxLen
def jjq (x0:Option (List (List UInt8))):Prop:=(x0.getD []).length≤maxLen∧∀ y∈x0.getD [],wf9 y
def jgv (x0:Option (List Int)):Prop:=(x0.getD []).length≤maxLen∧∀ y∈x0.getD [],wf3 y
def jjc (x0:Int) (x1:List UInt8) (x2:Option (List (List UInt8))) (x3:Option (List Int)) (x4:List UInt8):Prop:=wf3 x0∧wf9 x1∧jjq x2∧jgv x3∧wf9 x4
def jrr (x0:Option (List GEv)):Prop:=(x0.getD []).length≤maxLen∧∀ y∈x0.getD [],jjc y.number y.kind y.names y.values y.text
theorem rt3 {n:Nat} {cs:List AVal} (h:yv Tryz.prog (n + 1) 3 cs):∃ (x0:Int),cs=[.int .i64 x0]∧wf3 x0:=by
 simp only [yv,Tryz.underlying3] at h
 exact h
theorem rt9 {n:Nat} {cs:List AVal} (h:yv Tryz.prog (n + 1) 9 cs):∃ (x0:List UInt8),cs=[.str x0]∧wf9 x0:=by
 simp only [yv,Tryz.underlying9] at h
 exact h
theorem tA9:qfu Tryz.prog 9=false:=by kernel_rfl
theorem tC9:Tryz.prog.cellsOf 9=1:=by kernel_rfl
theorem zi4 {n:Nat} {cs:List AVal} (h:yv Tryz.prog (n + 2) 23 cs):∃ (x0:Option (List (List UInt8))),cs=[sl 1 yl x0]∧jjq x0:=by
 rw [yv] at h
 simp only [Tryz.underlying23] at h
 rcases h with h | ⟨xs,h,hln,hx⟩
 ·exact ⟨none,h,by simp [jjq]⟩
 ·obtain ⟨l,hl,hq⟩:=qra (f:=yl) (Q:=fun y=>wf9 y) (xs:=xs) (fun y hy=>by
   obtain ⟨h1,h2⟩:=hx y hy
   rw [tA9] at h2
   obtain ⟨y0,hm,hq⟩:=rt9 h1
   rw [qa5 h2] at hm
   exact ⟨y0,(List.cons.inj hm).1,hq⟩)
  exact ⟨some l,by rw [h,hl,tC9]; rfl,by rw [hl,List.length_map] at hln; exact ⟨hln,hq⟩⟩
theorem tA3:qfu Tryz.prog 3=false:=by kernel_rfl
theorem tC3:Tryz.prog.cellsOf 3=1:=by kernel_rfl
theorem zdg {n:Nat} {cs:List AVal} (h:yv Tryz.prog (n + 2) 24 cs):∃ (x0:Option (List Int)),cs=[sl 1 z7 x0]∧jgv x0:=by
 rw [yv] at h
 simp only [Tryz.underlying24] at h
 rcases h with h | ⟨xs,h,hln,hx⟩
 ·exact ⟨none,h,by simp [jgv]⟩
 ·obtain ⟨l,hl,hq⟩:=qra (f:=z7) (Q:=fun y=>wf3 y) (xs:=xs) (fun y hy=>by
   obtain ⟨h1,h2⟩:=hx y hy
   rw [tA3] at h2
   obtain ⟨y0,hm,hq⟩:=rt3 h1
   rw [qa5 h2] at hm
   exact ⟨y0,(List.cons.inj hm).1,hq⟩)
  exact ⟨some l,by rw [h,hl,tC3]; rfl,by rw [hl,List.length_map] at hln; exact ⟨hln,hq⟩⟩
theorem zfo {n:Nat} {cs:List AVal} (h:yv Tryz.prog (n + 3) 26 cs):∃ (x0:Int) (x1:List UInt8) (x2:Option (List (List UInt8))) (x3:Option (List Int)) (x4:List UInt8),cs=[.int .i64 x0,.str x1,sl 1 yl x2,sl 1 z7 x3,.str x4]∧jjc x0 x1 x2 x3 x4:=by
 rw [yv] at h
 simp only [Tryz.underlying26] at h
 obtain ⟨ys0,zs0,rfl,g0,k0⟩:=h
 obtain ⟨x0,rfl,w0⟩:=rt3 g0
 obtain ⟨ys1,zs1,rfl,g1,k1⟩:=k0
 obtain ⟨x1,rfl,w1⟩:=rt9 g1
 obtain ⟨ys2,zs2,rfl,g2,k2⟩:=k1
 obtain ⟨x2,rfl,w2⟩:=zi4 g2
 obtain ⟨ys3,zs3,rfl,g3,k3⟩:=k2
 obtain ⟨x3,rfl,w3⟩:=zdg g3
 obtain ⟨ys4,zs4,rfl,g4,k4⟩:=k3
 obtain ⟨x4,rfl,w4⟩:=rt9 g4
 rw [show zs4=[] from k4]
 exact ⟨x0,x1,x2,x3,x4,rfl,w0,w1,w2,w3,w4⟩
theorem zfm:qfu Tryz.prog 26=true:=by kernel_rfl
theorem zfe:Tryz.prog.cellsOf 26=5:=by kernel_rfl
theorem zc9 {n:Nat} {cs:List AVal} (h:yv Tryz.prog (n + 4) 22 cs):∃ (x0:Option (List GEv)),cs=[sl 5 vev x0]∧jrr x0:=by
 rw [yv] at h
 simp only [Tryz.underlying22] at h
 rcases h with h | ⟨xs,h,hln,hx⟩
 ·exact ⟨none,h,by simp [jrr]⟩
 ·obtain ⟨l,hl,hq⟩:=qra (f:=vev) (Q:=fun y=>jjc y.number y.kind y.names y.values y.text) (xs:=xs) (fun y hy=>by
   obtain ⟨h1,h2⟩:=hx y hy
   rw [zfm] at h2
   obtain ⟨y0,y1,y2,y3,y4,hm,hq⟩:=zfo h1
   exact ⟨⟨y0,y1,y2,y3,y4⟩,by rw [jgb h2,hm]; rfl,hq⟩)
  exact ⟨some l,by rw [h,hl,zfe]; rfl,by rw [hl,List.length_map] at hln; exact ⟨hln,hq⟩⟩
def wf5 (x0:Int):Prop:=(Lit.int .u8 x0).wf=true
theorem rt5 {n:Nat} {cs:List AVal} (h:yv Tryz.prog (n + 1) 5 cs):∃ (x0:Int),cs=[.int .u8 x0]∧wf5 x0:=by
 simp only [yv,Tryz.underlying5] at h
 exact h
theorem zd5:qfu Tryz.prog 22=false:=by kernel_rfl
theorem tA5:qfu Tryz.prog 5=false:=by kernel_rfl
theorem zgu (xs:List AVal) (h:qn9 Tryz.prog 6 Tryz.f4.params.toList xs):IsoCall Tryz.prog 4 xs (.bool true) false:=by
 rw [Tryz.params4] at h
 obtain ⟨y0,ys0,rfl,h0,h⟩:=h
 obtain ⟨y1,ys1,rfl,h1,h⟩:=h
 rw [show ys1=[] from h]
 obtain ⟨g0,k0⟩:=h0
 rw [zd5] at k0
 obtain ⟨p0_0,e0,q0⟩:=zc9 g0
 rw [qa5 k0] at e0
 obtain rfl:y0=sl 5 vev p0_0:=(List.cons.inj e0).1
 obtain ⟨g1,k1⟩:=h1
 rw [tA5] at k1
 obtain ⟨p1_0,e1,q1⟩:=rt5 g1
 rw [qa5 k1] at e1
 obtain rfl:y1=.int .u8 p1_0:=(List.cons.inj e1).1
 exact q4p okZ (I4 p0_0 p1_0 (jmc q1).1 (jmc q1).2) (by simp only [go_sem,seval])
end Go.Z
namespace Go.Proofs.YtimdocpnkimlfaaGreatDoor
open Go Go.Abs Go.Z Go.RowKit
theorem jpm {W:World} (hsh:W.ShapedOpen Tryz.prog) (h:laidMetH Tryz.prog Rows.worksPastRow.laid W):Tabs Tryz.prog W:=by
 rw [MakeChecks.laidMetH_plain _ _ _ (by kernel_rfl)] at h
 exact jp7 (List.mem_of_getElem? (i:=2) (by kernel_rfl)) hsh h
theorem q6z (os:Os) (started:os.Started) (H:Type) (enc:TypeId × Value→H):
  ReturnsInHanded {} Tryz.checked os 4 .any (fun w args=>(Rows.worksPastSpec.pre enc Tryz.prog Tryz.f4 Rows.worksPastRow.domain false w args∧laidMetH Tryz.prog Rows.worksPastRow.laid w)∧sizedMet enc Tryz.prog Tryz.f4 (OpenSpec.ofChange Rows.worksPastSpec) false w args) (Rows.worksPastSpec.post enc Tryz.prog Tryz.f4 false true false false):=
 qwj (C:=Tryz.checked) (laid:=Rows.worksPastRow.laid) 6 4 (fun _ _ hh h=>h.of_heap hh) j4b started (by kernel_rfl) Tryz.func4
  (ChangeSpec.witness_shaped (enc:=enc) (C:=Tryz.checked) (os:=os) (X:=fun w _=>laidMetH Tryz.prog Rows.worksPastRow.laid w) false (World.laidAll Tryz.prog os Rows.worksPastRow.laid) #[.slice none 0 0,.int .u8 0] 8 (World.laidAll_os _ _ _)
   (World.shaped_of_ZipB (by kernel_rfl) (by kernel_rfl)) (by kernel_rfl) (by kernel_rfl) (by kernel_rfl)
   (by rw [MakeChecks.laidMetH_plain _ _ _ (by kernel_rfl)]; exact laidMet_laidAll _ (by kernel_rfl) (by kernel_rfl)))
  rfl rfl Tryz.underlying4 jdt (by kernel_rfl) (by kernel_rfl)
  (fun ds hd=>by
   rw [Tryz.params4] at hd
   match ds,hd with
   | [d1,d2],_=>exact ⟨rfl,rfl,rfl⟩)
  zgu (fun W hsh h=>jpm hsh h)
theorem q0h:Rows.WorksPastSaid:=
 OpenClaim.holds_of_wide 4 Tryz.f4 rfl rfl rfl rfl rfl rfl rfl ⟨rfl,rfl,rfl,rfl,rfl⟩ rfl rfl rfl rfl rfl c4_named2 Tryz.func4 jc8 jqk jpw
  (fun os started H enc _=>q6z os started H enc)
theorem worksPast_holds:Rows.WorksPastCardSaid:=
 Claim7.holds_tied_plain_at .later [] [.data, .data, .data, .data, .pinned] true (true, "1bd47a6b7e681e5c8bd85b252bc129e10370a18833b6d87933be64800e006a4c") false
  q0h (fun _ h=>by cases h) jc7 (fun _ h=>by cases h) worksPast_row_tie rfl ⟨rfl,rfl⟩ jtj rfl
  (fun f fn hf hfn=>by
   obtain rfl:f=4:=Option.some.inj (c4_named2.symm.trans hf) |>.symm
   obtain rfl:fn=Tryz.f4:=(Option.some.inj (Tryz.func4.symm.trans hfn)).symm
   exact ⟨jns,fun j t ht=>by
    rw [Tryz.params4] at ht
    have hm:t∈[22,5]:=by simpa using Array.mem_of_getElem? ht
    have hall:([22,5].all fun u=>!Tryz.prog.wantsStandIn u)=true:=by kernel_rfl
    exact (show Tryz.prog.wantsStandIn t=false by simpa using List.all_eq_true.1 hall t hm)⟩)
  jom
end Go.Proofs.YtimdocpnkimlfaaGreatDoor
