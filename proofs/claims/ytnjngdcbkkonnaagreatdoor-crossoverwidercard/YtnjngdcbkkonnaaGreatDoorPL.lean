/-
  CrossoverWider returns true for every input, and each argument reads afterwards as it read before (the statement Rows.CrossoverWiderSaid). No conditions.
-/
import Derived.Test.YtnjngdcbkkonnaaGreatDoorA32
import Derived.Test.YtnjngdcbkkonnaaGreatDoorPY
import Derived.Test.YtnjngdcbkkonnaaGreatDoorPC
set_option linter.unusedVariables false
set_option linter.unusedSimpArgs false
set_option maxRecDepth 100000
namespace Go.Z
open Go Go.Abs Go.Proofs
theorem qzs {α:Type} {f:α→qa} {Q:α→Prop}:∀ {xs:List qa},(∀ y∈xs,∃ a,y=f a∧Q a)→∃ l:List α,xs=l.map f∧∀ a∈l,Q a
 | [],_=>⟨[],rfl,by simp⟩
 | y::xs,h=>by
  obtain ⟨a,ha,hq⟩:=h y (List.mem_cons_self ..)
  obtain ⟨l,hl,hr⟩:=qzs (f:=f) (Q:=Q) (fun z hz=>h z (List.mem_cons_of_mem _ hz))
  exact ⟨a::l,by rw [ha,hl]; rfl,fun b hb=>by
   rcases List.mem_cons.1 hb with rfl | hb
   ·exact hq
   ·exact hr b hb⟩
def wf9 (x0:List UInt8):Prop:=x0.length≤maxLen
def wf3 (x0:Int):Prop:=(Lit.int .i64 x0).wf=true
def jnt (x0:List UInt8) (x1:Int) (x2:Int):Prop:=wf9 x0∧wf3 x1∧wf3 x2
def jgj (x0:List UInt8) (x1:List UInt8) (x2:Int) (x3:Int) (x4:Int) (x5:Int) (x6:Int) (x7:Int):Prop:=wf9 x0∧jnt x1 x2 x3∧wf3 x4∧wf3 x5∧wf3 x6∧wf3 x7
def jnr (x0:Option (List qb)):Prop:=(x0.getD []).length≤maxLen∧∀ y∈x0.getD [],jgj y.name y.kd y.pa y.pb y.sa y.sb y.cost y.stock
theorem rt9 {n:Nat} {cs:List qa} (h:qah Tryz.prog (n + 1) 9 cs):∃ (x0:List UInt8),cs=[.str x0]∧wf9 x0:=by
 simp only [qah,Tryz.underlying9] at h
 exact h
theorem rt3 {n:Nat} {cs:List qa} (h:qah Tryz.prog (n + 1) 3 cs):∃ (x0:Int),cs=[.int .i64 x0]∧wf3 x0:=by
 simp only [qah,Tryz.underlying3] at h
 exact h
theorem j2p {n:Nat} {cs:List qa} (h:qah Tryz.prog (n + 2) 23 cs):∃ (x0:List UInt8) (x1:Int) (x2:Int),cs=[.str x0,.int .i64 x1,.int .i64 x2]∧jnt x0 x1 x2:=by
 rw [qah] at h
 simp only [Tryz.underlying23] at h
 obtain ⟨ys0,zs0,rfl,g0,k0⟩:=h
 obtain ⟨x0,rfl,w0⟩:=rt9 g0
 obtain ⟨ys1,zs1,rfl,g1,k1⟩:=k0
 obtain ⟨x1,rfl,w1⟩:=rt3 g1
 obtain ⟨ys2,zs2,rfl,g2,k2⟩:=k1
 obtain ⟨x2,rfl,w2⟩:=rt3 g2
 rw [show zs2=[] from k2]
 exact ⟨x0,x1,x2,rfl,w0,w1,w2⟩
theorem j3y {n:Nat} {cs:List qa} (h:qah Tryz.prog (n + 3) 25 cs):∃ (x0:List UInt8) (x1:List UInt8) (x2:Int) (x3:Int) (x4:Int) (x5:Int) (x6:Int) (x7:Int),cs=[.str x0,.str x1,.int .i64 x2,.int .i64 x3,.int .i64 x4,.int .i64 x5,.int .i64 x6,.int .i64 x7]∧jgj x0 x1 x2 x3 x4 x5 x6 x7:=by
 rw [qah] at h
 simp only [Tryz.underlying25] at h
 obtain ⟨ys0,zs0,rfl,g0,k0⟩:=h
 obtain ⟨x0,rfl,w0⟩:=rt9 g0
 obtain ⟨ys1,zs1,rfl,g1,k1⟩:=k0
 obtain ⟨x1,x2,x3,rfl,w1⟩:=j2p g1
 obtain ⟨ys2,zs2,rfl,g2,k2⟩:=k1
 obtain ⟨x4,rfl,w2⟩:=rt3 g2
 obtain ⟨ys3,zs3,rfl,g3,k3⟩:=k2
 obtain ⟨x5,rfl,w3⟩:=rt3 g3
 obtain ⟨ys4,zs4,rfl,g4,k4⟩:=k3
 obtain ⟨x6,rfl,w4⟩:=rt3 g4
 obtain ⟨ys5,zs5,rfl,g5,k5⟩:=k4
 obtain ⟨x7,rfl,w5⟩:=rt3 g5
 rw [show zs5=[] from k5]
 exact ⟨x0,x1,x2,x3,x4,x5,x6,x7,rfl,w0,w1,w2,w3,w4,w5⟩
theorem j2f:qgq Tryz.prog 25=true:=by kernel_rfl
theorem j4h:Tryz.prog.cellsOf 25=8:=by kernel_rfl
theorem jzy {n:Nat} {cs:List qa} (h:qah Tryz.prog (n + 4) 26 cs):∃ (x0:Option (List qb)),cs=[sl 8 zd x0]∧jnr x0:=by
 rw [qah] at h
 simp only [Tryz.underlying26] at h
 rcases h with h | ⟨xs,h,hln,hx⟩
 ·exact ⟨none,h,by simp [jnr]⟩
 ·obtain ⟨l,hl,hq⟩:=qzs (f:=zd) (Q:=fun y=>jgj y.name y.kd y.pa y.pb y.sa y.sb y.cost y.stock) (xs:=xs) (fun y hy=>by
   obtain ⟨h1,h2⟩:=hx y hy
   rw [j2f] at h2
   obtain ⟨y0,y1,y2,y3,y4,y5,y6,y7,hm,hq⟩:=j3y h1
   exact ⟨⟨y0,y1,y2,y3,y4,y5,y6,y7⟩,by rw [q4a h2,hm]; rfl,hq⟩)
  exact ⟨some l,by rw [h,hl,j4h]; rfl,by rw [hl,List.length_map] at hln; exact ⟨hln,hq⟩⟩
def jeu (x0:Int) (x1:Int):Prop:=wf3 x0∧wf3 x1
def q83 (x0:Int) (x1:Int) (x2:Int) (x3:Int) (x4:Int):Prop:=wf3 x0∧jeu x1 x2∧jeu x3 x4
def jmz (x0:Option (List qi)):Prop:=(x0.getD []).length≤maxLen∧∀ y∈x0.getD [],q83 y.w y.ln y.ld y.mn y.md
theorem jm6 {n:Nat} {cs:List qa} (h:qah Tryz.prog (n + 2) 53 cs):∃ (x0:Int) (x1:Int),cs=[.int .i64 x0,.int .i64 x1]∧jeu x0 x1:=by
 rw [qah] at h
 simp only [Tryz.underlying53] at h
 obtain ⟨ys0,zs0,rfl,g0,k0⟩:=h
 obtain ⟨x0,rfl,w0⟩:=rt3 g0
 obtain ⟨ys1,zs1,rfl,g1,k1⟩:=k0
 obtain ⟨x1,rfl,w1⟩:=rt3 g1
 rw [show zs1=[] from k1]
 exact ⟨x0,x1,rfl,w0,w1⟩
theorem jv2 {n:Nat} {cs:List qa} (h:qah Tryz.prog (n + 3) 107 cs):∃ (x0:Int) (x1:Int) (x2:Int) (x3:Int) (x4:Int),cs=[.int .i64 x0,.int .i64 x1,.int .i64 x2,.int .i64 x3,.int .i64 x4]∧q83 x0 x1 x2 x3 x4:=by
 rw [qah] at h
 simp only [Tryz.underlying107] at h
 obtain ⟨ys0,zs0,rfl,g0,k0⟩:=h
 obtain ⟨x0,rfl,w0⟩:=rt3 g0
 obtain ⟨ys1,zs1,rfl,g1,k1⟩:=k0
 obtain ⟨x1,x2,rfl,w1⟩:=jm6 g1
 obtain ⟨ys2,zs2,rfl,g2,k2⟩:=k1
 obtain ⟨x3,x4,rfl,w2⟩:=jm6 g2
 rw [show zs2=[] from k2]
 exact ⟨x0,x1,x2,x3,x4,rfl,w0,w1,w2⟩
theorem jt8:qgq Tryz.prog 107=true:=by kernel_rfl
theorem jw4:Tryz.prog.cellsOf 107=5:=by kernel_rfl
theorem j09 {n:Nat} {cs:List qa} (h:qah Tryz.prog (n + 4) 49 cs):∃ (x0:Option (List qi)),cs=[sl 5 yf x0]∧jmz x0:=by
 rw [qah] at h
 simp only [Tryz.underlying49] at h
 rcases h with h | ⟨xs,h,hln,hx⟩
 ·exact ⟨none,h,by simp [jmz]⟩
 ·obtain ⟨l,hl,hq⟩:=qzs (f:=yf) (Q:=fun y=>q83 y.w y.ln y.ld y.mn y.md) (xs:=xs) (fun y hy=>by
   obtain ⟨h1,h2⟩:=hx y hy
   rw [jt8] at h2
   obtain ⟨y0,y1,y2,y3,y4,hm,hq⟩:=jv2 h1
   exact ⟨⟨y0,y1,y2,y3,y4⟩,by rw [q4a h2,hm]; rfl,hq⟩)
  exact ⟨some l,by rw [h,hl,jw4]; rfl,by rw [hl,List.length_map] at hln; exact ⟨hln,hq⟩⟩
def wf5 (x0:Int):Prop:=(Lit.int .u8 x0).wf=true
theorem rt5 {n:Nat} {cs:List qa} (h:qah Tryz.prog (n + 1) 5 cs):∃ (x0:Int),cs=[.int .u8 x0]∧wf5 x0:=by
 simp only [qah,Tryz.underlying5] at h
 exact h
theorem j0e:qgq Tryz.prog 26=false:=by kernel_rfl
theorem j36:qgq Tryz.prog 49=false:=by kernel_rfl
theorem tA5:qgq Tryz.prog 5=false:=by kernel_rfl
theorem jue (xs:List qa) (h:qpw Tryz.prog 6 Tryz.f10.params.toList xs):qa6 Tryz.prog 10 xs (.bool true) false:=by
 rw [Tryz.params10] at h
 obtain ⟨y0,ys0,rfl,h0,h⟩:=h
 obtain ⟨y1,ys1,rfl,h1,h⟩:=h
 obtain ⟨y2,ys2,rfl,h2,h⟩:=h
 rw [show ys2=[] from h]
 obtain ⟨g0,k0⟩:=h0
 rw [j0e] at k0
 obtain ⟨p0_0,e0,q0⟩:=jzy g0
 rw [qc5 k0] at e0
 obtain rfl:y0=sl 8 zd p0_0:=(List.cons.inj e0).1
 obtain ⟨g1,k1⟩:=h1
 rw [j36] at k1
 obtain ⟨p1_0,e1,q1⟩:=j09 g1
 rw [qc5 k1] at e1
 obtain rfl:y1=sl 5 yf p1_0:=(List.cons.inj e1).1
 obtain ⟨g2,k2⟩:=h2
 rw [tA5] at k2
 obtain ⟨p2_0,e2,q2⟩:=rt5 g2
 rw [qc5 k2] at e2
 obtain rfl:y2=.int .u8 p2_0:=(List.cons.inj e2).1
 exact qvh okY (I10 p0_0 p1_0 p2_0 (jre q2)) (by simp only [go_sem,seval])
end Go.Z
namespace Go.Proofs.YtnjngdcbkkonnaaGreatDoor
open Go Go.Abs Go.Z Go.RowKit
theorem jjq {W:World} (hsh:W.ShapedOpen Tryz.prog) (h:laidMetH Tryz.prog Rows.crossoverWiderRow.laid W):Tabs Tryz.prog W:=by
 rw [MakeChecks.laidMetH_plain _ _ _ (by kernel_rfl)] at h
 exact jj6 (List.mem_of_getElem? (i:=2) (by kernel_rfl)) (List.mem_of_getElem? (i:=3) (by kernel_rfl)) (List.mem_of_getElem? (i:=4) (by kernel_rfl)) hsh h
theorem q2j (os:Os) (started:os.Started) (H:Type) (enc:TypeId × Value→H):
  ReturnsInHanded {} Tryz.checked os 10 .any (fun w args=>(Rows.crossoverWiderSpec.pre enc Tryz.prog Tryz.f10 Rows.crossoverWiderRow.domain false w args∧laidMetH Tryz.prog Rows.crossoverWiderRow.laid w)∧sizedMet enc Tryz.prog Tryz.f10 (OpenSpec.ofChange Rows.crossoverWiderSpec) false w args) (Rows.crossoverWiderSpec.post enc Tryz.prog Tryz.f10 false true false false):=
 qwe (C:=Tryz.checked) (laid:=Rows.crossoverWiderRow.laid) 6 4 (fun _ _ hh h=>h.of_heap hh) jq0 started (by kernel_rfl) Tryz.func10
  (ChangeSpec.witness_shaped (enc:=enc) (C:=Tryz.checked) (os:=os) (X:=fun w _=>laidMetH Tryz.prog Rows.crossoverWiderRow.laid w) false (World.laidAll Tryz.prog os Rows.crossoverWiderRow.laid) #[.slice none 0 0,.slice none 0 0,.int .u8 0] 8 (World.laidAll_os _ _ _)
   (World.shaped_of_ZipB (by kernel_rfl) (by kernel_rfl)) (by kernel_rfl) (by kernel_rfl) (by kernel_rfl)
   (by rw [MakeChecks.laidMetH_plain _ _ _ (by kernel_rfl)]; exact laidMet_laidAll _ (by kernel_rfl) (by kernel_rfl)))
  rfl rfl Tryz.underlying4 jds (by kernel_rfl) (by kernel_rfl)
  (fun ds hd=>by
   rw [Tryz.params10] at hd
   match ds,hd with
   | [d1,d2,d3],_=>exact ⟨rfl,rfl,rfl⟩)
  jue (fun W hsh h=>jjq hsh h)
theorem qr2:Rows.CrossoverWiderSaid:=
 OpenClaim.holds_of_wide 10 Tryz.f10 rfl rfl rfl rfl rfl rfl rfl ⟨rfl,rfl,rfl,rfl,rfl⟩ rfl rfl rfl rfl rfl c10_named2 Tryz.func10 q8k jfs jeh
  (fun os started H enc _=>q2j os started H enc)
theorem crossoverWider_holds:Rows.CrossoverWiderCardSaid:=
 Claim7.holds_tied_plain_at .later [] [.data, .data, .data, .data, .data] true (true, "1b137b5074cd62955587cfa04bcaa679776963b89422bbb2bd8fd54760d6b645") false
  qr2 (fun _ h=>by cases h) q8t (fun _ h=>by cases h) crossoverWider_row_tie rfl ⟨rfl,rfl⟩ jmy rfl
  (fun f fn hf hfn=>by
   obtain rfl:f=10:=Option.some.inj (c10_named2.symm.trans hf) |>.symm
   obtain rfl:fn=Tryz.f10:=(Option.some.inj (Tryz.func10.symm.trans hfn)).symm
   exact ⟨jkm,fun j t ht=>by
    rw [Tryz.params10] at ht
    have hm:t∈[26,49,5]:=by simpa using Array.mem_of_getElem? ht
    have hall:([26,49,5].all fun u=>!Tryz.prog.wantsStandIn u)=true:=by kernel_rfl
    exact (show Tryz.prog.wantsStandIn t=false by simpa using List.all_eq_true.1 hall t hm)⟩)
  jf8
end Go.Proofs.YtnjngdcbkkonnaaGreatDoor
