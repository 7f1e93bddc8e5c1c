/-
  WorksParts returns true for every input, and each argument reads afterwards as it read before (the statement Rows.WorksPartsSaid). No conditions.
-/
import Derived.Test.YtimdocpnkimlfaaGreatDoorTL7
import Derived.Test.YtimdocpnkimlfaaGreatDoorPC7
set_option linter.unusedVariables false
set_option linter.unusedSimpArgs false
set_option maxRecDepth 100000
namespace Go.Z
open Go Go.Abs Go.Proofs
theorem qe7 {α:Type} {f:α→AVal} {Q:α→Prop}:∀ {xs:List AVal},(∀ y∈xs,∃ a,y=f a∧Q a)→∃ l:List α,xs=l.map f∧∀ a∈l,Q a
 | [],_=>⟨[],rfl,by simp⟩
 | y::xs,h=>by
  obtain ⟨a,ha,hq⟩:=h y (List.mem_cons_self ..)
  obtain ⟨l,hl,hr⟩:=qe7 (f:=f) (Q:=Q) (fun z hz=>h z (List.mem_cons_of_mem _ hz))
  exact ⟨a::l,by rw [ha,hl]; rfl,fun b hb=>by
   rcases List.mem_cons.1 hb with rfl | hb
   ·exact hq
   ·exact hr b hb⟩
def wf3 (x0:Int):Prop:=(Lit.int .i64 x0).wf=true
def wf9 (x0:List UInt8):Prop:=x0.length≤maxLen
def qtd (x0:Option (List (List UInt8))):Prop:=(x0.getD []).length≤maxLen∧∀ y∈x0.getD [],wf9 y
def quf (x0:Option (List Int)):Prop:=(x0.getD []).length≤maxLen∧∀ y∈x0.getD [],wf3 y
def qt6 (x0:Int) (x1:List UInt8) (x2:Option (List (List UInt8))) (x3:Option (List Int)) (x4:List UInt8):Prop:=wf3 x0∧wf9 x1∧qtd x2∧quf x3∧wf9 x4
def q30 (x0:Option (List GEv)):Prop:=(x0.getD []).length≤maxLen∧∀ y∈x0.getD [],qt6 y.number y.kind y.names y.values y.text
theorem rt3 {n:Nat} {cs:List AVal} (h:z8 Tryz.prog (n + 1) 3 cs):∃ (x0:Int),cs=[.int .i64 x0]∧wf3 x0:=by
 simp only [z8,Tryz.underlying3] at h
 exact h
theorem rt9 {n:Nat} {cs:List AVal} (h:z8 Tryz.prog (n + 1) 9 cs):∃ (x0:List UInt8),cs=[.str x0]∧wf9 x0:=by
 simp only [z8,Tryz.underlying9] at h
 exact h
theorem tA9:qeo Tryz.prog 9=false:=by kernel_rfl
theorem tC9:Tryz.prog.cellsOf 9=1:=by kernel_rfl
theorem jm0 {n:Nat} {cs:List AVal} (h:z8 Tryz.prog (n + 2) 23 cs):∃ (x0:Option (List (List UInt8))),cs=[sl 1 j9 x0]∧qtd x0:=by
 rw [z8] at h
 simp only [Tryz.underlying23] at h
 rcases h with h | ⟨xs,h,hln,hx⟩
 ·exact ⟨none,h,by simp [qtd]⟩
 ·obtain ⟨l,hl,hq⟩:=qe7 (f:=j9) (Q:=fun y=>wf9 y) (xs:=xs) (fun y hy=>by
   obtain ⟨h1,h2⟩:=hx y hy
   rw [tA9] at h2
   obtain ⟨y0,hm,hq⟩:=rt9 h1
   rw [qa4 h2] at hm
   exact ⟨y0,(List.cons.inj hm).1,hq⟩)
  exact ⟨some l,by rw [h,hl,tC9]; rfl,by rw [hl,List.length_map] at hln; exact ⟨hln,hq⟩⟩
theorem tA3:qeo Tryz.prog 3=false:=by kernel_rfl
theorem tC3:Tryz.prog.cellsOf 3=1:=by kernel_rfl
theorem jls {n:Nat} {cs:List AVal} (h:z8 Tryz.prog (n + 2) 24 cs):∃ (x0:Option (List Int)),cs=[sl 1 jm x0]∧quf x0:=by
 rw [z8] at h
 simp only [Tryz.underlying24] at h
 rcases h with h | ⟨xs,h,hln,hx⟩
 ·exact ⟨none,h,by simp [quf]⟩
 ·obtain ⟨l,hl,hq⟩:=qe7 (f:=jm) (Q:=fun y=>wf3 y) (xs:=xs) (fun y hy=>by
   obtain ⟨h1,h2⟩:=hx y hy
   rw [tA3] at h2
   obtain ⟨y0,hm,hq⟩:=rt3 h1
   rw [qa4 h2] at hm
   exact ⟨y0,(List.cons.inj hm).1,hq⟩)
  exact ⟨some l,by rw [h,hl,tC3]; rfl,by rw [hl,List.length_map] at hln; exact ⟨hln,hq⟩⟩
theorem jiy {n:Nat} {cs:List AVal} (h:z8 Tryz.prog (n + 3) 26 cs):∃ (x0:Int) (x1:List UInt8) (x2:Option (List (List UInt8))) (x3:Option (List Int)) (x4:List UInt8),cs=[.int .i64 x0,.str x1,sl 1 j9 x2,sl 1 jm x3,.str x4]∧qt6 x0 x1 x2 x3 x4:=by
 rw [z8] at h
 simp only [Tryz.underlying26] at h
 obtain ⟨ys0,zs0,rfl,g0,k0⟩:=h
 obtain ⟨x0,rfl,w0⟩:=rt3 g0
 obtain ⟨ys1,zs1,rfl,g1,k1⟩:=k0
 obtain ⟨x1,rfl,w1⟩:=rt9 g1
 obtain ⟨ys2,zs2,rfl,g2,k2⟩:=k1
 obtain ⟨x2,rfl,w2⟩:=jm0 g2
 obtain ⟨ys3,zs3,rfl,g3,k3⟩:=k2
 obtain ⟨x3,rfl,w3⟩:=jls g3
 obtain ⟨ys4,zs4,rfl,g4,k4⟩:=k3
 obtain ⟨x4,rfl,w4⟩:=rt9 g4
 rw [show zs4=[] from k4]
 exact ⟨x0,x1,x2,x3,x4,rfl,w0,w1,w2,w3,w4⟩
theorem jhz:qeo Tryz.prog 26=true:=by kernel_rfl
theorem jns:Tryz.prog.cellsOf 26=5:=by kernel_rfl
theorem jlc {n:Nat} {cs:List AVal} (h:z8 Tryz.prog (n + 4) 22 cs):∃ (x0:Option (List GEv)),cs=[sl 5 vev x0]∧q30 x0:=by
 rw [z8] at h
 simp only [Tryz.underlying22] at h
 rcases h with h | ⟨xs,h,hln,hx⟩
 ·exact ⟨none,h,by simp [q30]⟩
 ·obtain ⟨l,hl,hq⟩:=qe7 (f:=vev) (Q:=fun y=>qt6 y.number y.kind y.names y.values y.text) (xs:=xs) (fun y hy=>by
   obtain ⟨h1,h2⟩:=hx y hy
   rw [jhz] at h2
   obtain ⟨y0,y1,y2,y3,y4,hm,hq⟩:=jiy h1
   exact ⟨⟨y0,y1,y2,y3,y4⟩,by rw [q55 h2,hm]; rfl,hq⟩)
  exact ⟨some l,by rw [h,hl,jns]; rfl,by rw [hl,List.length_map] at hln; exact ⟨hln,hq⟩⟩
theorem jlh:qeo Tryz.prog 22=false:=by kernel_rfl
theorem zjf (xs:List AVal) (h:qjo Tryz.prog 6 Tryz.f7.params.toList xs):IsoCall Tryz.prog 7 xs (.bool true) false:=by
 rw [Tryz.params7] at h
 obtain ⟨y0,ys0,rfl,h0,h⟩:=h
 rw [show ys0=[] from h]
 obtain ⟨g0,k0⟩:=h0
 rw [jlh] at k0
 obtain ⟨p0_0,e0,q0⟩:=jlc g0
 rw [qa4 k0] at e0
 obtain rfl:y0=sl 5 vev p0_0:=(List.cons.inj e0).1
 exact quc okZ (I7 p0_0) (by simp only [go_sem,seval])
end Go.Z
namespace Go.Proofs.YtimdocpnkimlfaaGreatDoor
open Go Go.Abs Go.Z Go.RowKit
theorem qyq {W:World} (hsh:W.ShapedOpen Tryz.prog) (h:laidMetH Tryz.prog Rows.worksPartsRow.laid W):Tabs Tryz.prog W:=by
 rw [MakeChecks.laidMetH_plain _ _ _ (by kernel_rfl)] at h
 exact q8x (List.mem_of_getElem? (i:=2) (by kernel_rfl)) hsh h
theorem q7h (os:Os) (started:os.Started) (H:Type) (enc:TypeId × Value→H):
  ReturnsInHanded {} Tryz.checked os 7 .any (fun w args=>(Rows.worksPartsSpec.pre enc Tryz.prog Tryz.f7 Rows.worksPartsRow.domain false w args∧laidMetH Tryz.prog Rows.worksPartsRow.laid w)∧sizedMet enc Tryz.prog Tryz.f7 (OpenSpec.ofChange Rows.worksPartsSpec) false w args) (Rows.worksPartsSpec.post enc Tryz.prog Tryz.f7 false true false false):=
 qku (C:=Tryz.checked) (laid:=Rows.worksPartsRow.laid) 6 4 (fun _ _ hh h=>h.of_heap hh) joe started (by kernel_rfl) Tryz.func7
  (ChangeSpec.witness_shaped (enc:=enc) (C:=Tryz.checked) (os:=os) (X:=fun w _=>laidMetH Tryz.prog Rows.worksPartsRow.laid w) false (World.laidAll Tryz.prog os Rows.worksPartsRow.laid) #[.slice none 0 0] 8 (World.laidAll_os _ _ _)
   (World.shaped_of_ZipB (by kernel_rfl) (by kernel_rfl)) (by kernel_rfl) (by kernel_rfl) (by kernel_rfl)
   (by rw [MakeChecks.laidMetH_plain _ _ _ (by kernel_rfl)]; exact laidMet_laidAll _ (by kernel_rfl) (by kernel_rfl)))
  rfl rfl Tryz.underlying4 qxz (by kernel_rfl) (by kernel_rfl)
  (fun ds hd=>by
   rw [Tryz.params7] at hd
   match ds,hd with
   | [d1],_=>exact ⟨rfl,rfl,rfl⟩)
  zjf (fun W hsh h=>qyq hsh h)
theorem qy7:Rows.WorksPartsSaid:=
 OpenClaim.holds_of_wide 7 Tryz.f7 rfl rfl rfl rfl rfl rfl rfl ⟨rfl,rfl,rfl,rfl,rfl⟩ rfl rfl rfl rfl rfl c7_named2 Tryz.func7 jfi jrh jqp
  (fun os started H enc _=>q7h os started H enc)
theorem worksParts_holds:Rows.WorksPartsCardSaid:=
 Claim7.holds_tied_plain_at .later [] [.data, .data, .data, .data, .pinned] true (true, "1bd47a6b7e681e5c8bd85b252bc129e10370a18833b6d87933be64800e006a4c") false
  qy7 (fun _ h=>by cases h) jfz (fun _ h=>by cases h) worksParts_row_tie rfl ⟨rfl,rfl⟩ je2 rfl
  (fun f fn hf hfn=>by
   obtain rfl:f=7:=Option.some.inj (c7_named2.symm.trans hf) |>.symm
   obtain rfl:fn=Tryz.f7:=(Option.some.inj (Tryz.func7.symm.trans hfn)).symm
   exact ⟨q85,fun j t ht=>by
    rw [Tryz.params7] at ht
    have hm:t∈[22]:=by simpa using Array.mem_of_getElem? ht
    have hall:([22].all fun u=>!Tryz.prog.wantsStandIn u)=true:=by kernel_rfl
    exact (show Tryz.prog.wantsStandIn t=false by simpa using List.all_eq_true.1 hall t hm)⟩)
  jqv
end Go.Proofs.YtimdocpnkimlfaaGreatDoor
