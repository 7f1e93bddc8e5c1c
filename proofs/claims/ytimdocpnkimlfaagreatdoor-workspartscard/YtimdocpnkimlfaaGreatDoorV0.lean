/- Chapter 10. -/
import Derived.Test.YtimdocpnkimlfaaGreatDoorW6
import Derived.Test.YtimdocpnkimlfaaGreatDoorW4
set_option linter.unusedVariables false
set_option linter.unusedSimpArgs false
set_option maxRecDepth 100000
noncomputable section
open Option renaming some→I,none→Gq
open Bool renaming false→En,true→Gt,and_self→G6
open Nat renaming le_of_ble_eq_true→Ey,beq_refl→Gv,ble_eq_true_of_le→Gw,beq→Gy,blt_eq→G5
open List renaming replicate→Gn,getElem?_eq_some_iff→Gp,length_set→Gs,take_of_length_le→Gz,drop_eq_nil_of_le→G0,length_map→G1,nil_append→G2,map→G7
namespace Go.Z
open Go Go.Abs Go.W
section
variable {p:zb}{xc:XC}{h0:Nat}{al:Option (List Nat)}{e:Env}{h:qh}{α:Type}
structure pv (f:α→AVal)(sz:Nat):Prop where
 len:∀x,(f x).flat.length=sz
 sc:∀x,(f x).flat.all qk=Gt
 ag:∀x,f x=.agg (f x).flat
 ref:∀x,(f x).flat.any LO=Gt
 big:1<sz
variable {f:α→AVal}{sz:Nat}
theorem jl0 (E:pv f sz)(l:List α):(ze f l).all qk=Gt:=by
 induction l with
 |nil=>rfl
 |cons x l ih=>rw[wV,List.all_append,E.sc,ih];rfl
theorem q8d (E:pv f sz):∀(l:List α),mH sz l.length (ze f l)=l.map f
 | []=>rfl
 |x::l=>by
  have hb:Gy sz 1=En:=by
   have:=E.big
   cases h:Gy sz 1 with
   |false=>rfl
   |true=>have:=Nat.eq_of_beq_eq_true h;omega
  have hl:=E.len x
  show(bif Gy sz 1 then(ze f (x::l)).headD .undef else .agg ((ze f (x::l)).take sz))::mH sz l.length ((ze f (x::l)).drop sz)=_
  rw[hb,cond_false,wV,List.take_append_of_le_length (by omega),List.drop_append_of_le_length (by omega),Gz (by omega),G0 (by omega),G2,q8d E l,←E.ag]
  rfl
theorem wo (E:pv f sz){l}(hl:0<l.length){cs}(hc:cs.map (·.1)=ze f l):NR (I cs) 0 l.length=I (.list En sz (l.map f)):=by
 have dT:cs.length=l.length*sz:=by rw[←G1 (f:=(·.1)),hc,H9 E.len]
 have hdiv:cs.length / l.length=sz:=by rw[dT];exact Nat.mul_div_cancel_left _ hl
 have Y0:cs.any (fun c=>LO c.1)=Gt:=by
  cases l with
  |nil=>cases hl
  |cons x l=>
   have:(cs.map (·.1)).any LO=Gt:=by rw[hc,wV,List.any_append,E.ref];rfl
   rw[List.any_map]at this
   exact this
 have hr:Er 0 l.length cs=Gt:=by
  have hb:Nat.blt 1 sz=Gt:=G5.mpr E.big
  rw[Er,hdiv,hb,Y0,dT,Gv,Gv];rfl
 unfold NR
 simp only[hr,cond_true,hdiv]
 rw[hc,q8d E]
theorem CU {r n Y1 zero}(hz:zero.length=sz)(hs:zero.all qk=Gt)(h1:0<sz)(hn:n≤1073741824)(hb:Y1≤4096){h'}(hh:aJ h0 h r (.cells (cellsOf (Gn n zero).flatten))=I h'):
  wk h0 r sz Y1 zero h (I (Iv (n:Int))) (I (Iv (n:Int)))=I ⟨.ms (h0+r) 0 n,En,Gq,h'⟩:=by
 show(bif Gy n n&&Nat.ble n 1073741824&&Nat.ble Y1 4096&&Gy zero.length sz&&Nat.blt 0 sz&&zero.all qk then _ else _)=_
 rw[Gv,Gw hn,Gw hb,hz,Gv,G5.mpr h1,hs]
 simp only[G6,cond_true,hh]
 rfl
theorem CV (E:pv f sz){b l cs}(hb:h[b]?=I (.cells cs))(hc:cs.length=(l.getD []).length*sz)(dN:zd h0 al b=Gt):
  xm h0 al sz h (I (.ms b 0 (l.getD []).length)) (I (sl sz f l))=I ⟨Lv l,En,Gq,h.set b (.cells (bJ f (l.getD [])))⟩:=by
 have lA:jy h b=I cs:=by rw[q7p,hb];rfl
 have br:=(Gp.1 hb).1
 have cW:A4 sz (l.getD []).length (sl sz f l)=I ((l.getD []).length,ze f (l.getD [])):=by
  cases l with
  |none=>simp[sl,A4,ze]
  |some l=>
   show(bif Gy sz sz||(l.map f).isEmpty then I (min (l.map f).length l.length,((l.map f).take l.length).flatMap AVal.flat)else Gq)=_
   rw[Gv,G1,Nat.min_self,Gz (by rw[G1];exact Nat.le_refl _)]
   rfl
 have Mc:(ze f (l.getD [])).length=(l.getD []).length*sz:=H9 E.len _
 have ct:jw cs 0 (ze f (l.getD []))=I (bJ f (l.getD [])):=by
  unfold jw
  rw[jl0 E,Mc,hc,Gw (by omega)]
  simp only[G6,cond_true,List.take_zero,G2]
  rw[G0 (by rw[hc];omega),List.append_nil]
  rfl
 have bw:jt h b (.cells (bJ f (l.getD [])))=I (h.set b (.cells (bJ f (l.getD [])))):=by
  simp only[jt,G5.mpr br,cond_true]
 show(bif zd h0 al b then(match jy h b with
   |some cs=>(match A4 sz (l.getD []).length (sl sz f l)with
    |some (n,vs)=>(match jw cs 0 vs with
     |some eK=>bif Gy vs.length (n*sz)then(match jt h b (.cells eK)with
      |some h'=>val h' (Iv n)
      |none=>Gq)else Gq
     |none=>Gq)
    |none=>Gq)
   |none=>Gq)else Gq)=_
 rw[dN,lA,cW]
 simp only[cond_true,ct,Mc,Gv,bw]
 rfl
theorem wu {b n i k}(hi:i<n):kF sz h (I (.ms b 0 n)) (I (.int k (i:Int)))=I ⟨.ptr b (i*sz),En,Gq,h⟩:=by
 have:idx n (.int k (i:Int))=I i:=by rw[zM];exact WK hi
 simp only[kF,this,Nat.zero_add]
 rfl
end
end Go.Z
set_option maxHeartbeats 4000000
namespace Go.Z
open Go Go.Abs Go.W
theorem gE:pv jc 5:=⟨fun _=>rfl,fun _=>rfl,fun _=>rfl,fun _=>rfl,by omega⟩
theorem pw:pv bn 2:=⟨fun _=>rfl,fun _=>rfl,fun _=>rfl,fun _=>rfl,by omega⟩
theorem sE:pv ja 3:=⟨fun _=>rfl,fun _=>rfl,fun _=>rfl,fun _=>rfl,by omega⟩
theorem cN:pv qv 4:=⟨fun _=>rfl,fun _=>by simp only[go_sem,seval,jby]<;>simp only[List.all,go_sem],fun _=>rfl,fun _=>rfl,by omega⟩
theorem et:pv aY 8:=⟨fun _=>rfl,fun _=>by simp only[go_sem,seval,jni]<;>simp only[List.all,go_sem],fun _=>rfl,fun _=>rfl,by omega⟩
theorem zgk {j caps l i cs}(hlen:(l.getD []).length≤1073741824)(hi:i<(l.getD []).length)(dT:qm pr (X pr) j (.ptr 0 (i*4)::caps) [.cells (bJ qv (l.getD []))]=I (.aB [],En,[.cells cs])):qm pr (X pr) 221 [sl 4 qv l,Iv (i:Int),.fn (.func j) [] caps] []=I (.ms 0 0 ((l.getD []).length),En,[.cells cs]):=by
 rw[qn (show pr.bQ 221=I sF from rfl) (by simp)]
 have px:wk 0 0 4 88 [(.str []),(Nl),(Nl),(Nl)] [.hole] (I (Lv l)) (I (Lv l))=I ⟨.ms 0 0 (l.getD []).length,En,Gq,[.cells (cellsOf (Gn (l.getD []).length [(.str []),(Nl),(Nl),(Nl)]).flatten)]⟩:=by apply CU<;>first|exact hlen|rfl|decide
 have py:xm 1 Gq 4 [.cells (cellsOf (Gn (l.getD []).length [(.str []),(Nl),(Nl),(Nl)]).flatten)] (I (.ms 0 0 (l.getD []).length)) (I (sl 4 qv l))=I ⟨Lv l,En,Gq,[.cells (bJ qv (l.getD []))]⟩:=CV cN rfl (by simp[cellsOf]) rfl
 simp only[go_sem,seval,sF,px,py,wu hi,dT]<;>rfl
theorem j33{y:aS} {j:Nat} {caps:List AVal} {l:Option (List aS)} {i:Nat} {cs:List (AVal×Bool)} (hlen:(l.getD []).length≤1073741824) (hi:i<(l.getD []).length) (dT:qm pr (X pr) j (.ptr 0 (i*4)::caps) [.cells (bJ qv (l.getD []))]=I (.aB [],En,[.cells cs])) (hcs:cs.map (·.1)=ze qv ((l.getD []).set i y)):qc pr (X pr) 221 [sl 4 qv l,Iv (i:Int),.fn (.func j) [] caps]=I (sl 4 qv (I ((l.getD []).set i y)),En):=by
 have hl:((l.getD []).set i y).length=(l.getD []).length:=Gs
 have hz:aF [.cells cs] (.ms 0 0 ((l.getD []).length))=I (sl 4 qv (I ((l.getD []).set i y))):=by
  rw[FI,←hl]
  exact wo cN (by rw[hl];omega) hcs
 exact yd rfl (zgk hlen hi dT) hz (by first|rfl|simp only[go_sem,seval])
theorem zjd {j caps l i cs}(hlen:(l.getD []).length≤1073741824)(hi:i<(l.getD []).length)(dT:qm pr (X pr) j (.ptr 0 (i*5)::caps) [.cells (bJ jc (l.getD []))]=I (.aB [],En,[.cells cs])):qm pr (X pr) 227 [sl 5 jc l,Iv (i:Int),.fn (.func j) [] caps] []=I (.ms 0 0 ((l.getD []).length),En,[.cells cs]):=by
 rw[qn (show pr.bQ 227=I sG from rfl) (by simp)]
 have px:wk 0 0 5 56 [(.str []),(.str []),(Iv 0),(Iv 0),(.bool En)] [.hole] (I (Lv l)) (I (Lv l))=I ⟨.ms 0 0 (l.getD []).length,En,Gq,[.cells (cellsOf (Gn (l.getD []).length [(.str []),(.str []),(Iv 0),(Iv 0),(.bool En)]).flatten)]⟩:=by apply CU<;>first|exact hlen|rfl|decide
 have py:xm 1 Gq 5 [.cells (cellsOf (Gn (l.getD []).length [(.str []),(.str []),(Iv 0),(Iv 0),(.bool En)]).flatten)] (I (.ms 0 0 (l.getD []).length)) (I (sl 5 jc l))=I ⟨Lv l,En,Gq,[.cells (bJ jc (l.getD []))]⟩:=CV gE rfl (by simp[cellsOf]) rfl
 simp only[go_sem,seval,sG,px,py,wu hi,dT]<;>rfl
theorem j7d{y:jd} {j:Nat} {caps:List AVal} {l:Option (List jd)} {i:Nat} {cs:List (AVal×Bool)} (hlen:(l.getD []).length≤1073741824) (hi:i<(l.getD []).length) (dT:qm pr (X pr) j (.ptr 0 (i*5)::caps) [.cells (bJ jc (l.getD []))]=I (.aB [],En,[.cells cs])) (hcs:cs.map (·.1)=ze jc ((l.getD []).set i y)):qc pr (X pr) 227 [sl 5 jc l,Iv (i:Int),.fn (.func j) [] caps]=I (sl 5 jc (I ((l.getD []).set i y)),En):=by
 have hl:((l.getD []).set i y).length=(l.getD []).length:=Gs
 have hz:aF [.cells cs] (.ms 0 0 ((l.getD []).length))=I (sl 5 jc (I ((l.getD []).set i y))):=by
  rw[FI,←hl]
  exact wo gE (by rw[hl];omega) hcs
 exact yd rfl (zjd hlen hi dT) hz (by first|rfl|simp only[go_sem,seval])
theorem zco {j caps l i cs}(hlen:(l.getD []).length≤1073741824)(hi:i<(l.getD []).length)(dT:qm pr (X pr) j (.ptr 0 (i*8)::caps) [.cells (bJ aY (l.getD []))]=I (.aB [],En,[.cells cs])):qm pr (X pr) 231 [sl 8 aY l,Iv (i:Int),.fn (.func j) [] caps] []=I (.ms 0 0 ((l.getD []).length),En,[.cells cs]):=by
 rw[qn (show pr.bQ 231=I nW from rfl) (by simp)]
 have px:wk 0 0 8 120 [(.str []),(.str []),(Iv 0),(Nl),(Nl),(.str []),(.bool En),(Iv 0)] [.hole] (I (Lv l)) (I (Lv l))=I ⟨.ms 0 0 (l.getD []).length,En,Gq,[.cells (cellsOf (Gn (l.getD []).length [(.str []),(.str []),(Iv 0),(Nl),(Nl),(.str []),(.bool En),(Iv 0)]).flatten)]⟩:=by apply CU<;>first|exact hlen|rfl|decide
 have py:xm 1 Gq 8 [.cells (cellsOf (Gn (l.getD []).length [(.str []),(.str []),(Iv 0),(Nl),(Nl),(.str []),(.bool En),(Iv 0)]).flatten)] (I (.ms 0 0 (l.getD []).length)) (I (sl 8 aY l))=I ⟨Lv l,En,Gq,[.cells (bJ aY (l.getD []))]⟩:=CV et rfl (by simp[cellsOf]) rfl
 simp only[go_sem,seval,nW,px,py,wu hi,dT]<;>rfl
theorem j45{y:ay} {j:Nat} {caps:List AVal} {l:Option (List ay)} {i:Nat} {cs:List (AVal×Bool)} (hlen:(l.getD []).length≤1073741824) (hi:i<(l.getD []).length) (dT:qm pr (X pr) j (.ptr 0 (i*8)::caps) [.cells (bJ aY (l.getD []))]=I (.aB [],En,[.cells cs])) (hcs:cs.map (·.1)=ze aY ((l.getD []).set i y)):qc pr (X pr) 231 [sl 8 aY l,Iv (i:Int),.fn (.func j) [] caps]=I (sl 8 aY (I ((l.getD []).set i y)),En):=by
 have hl:((l.getD []).set i y).length=(l.getD []).length:=Gs
 have hz:aF [.cells cs] (.ms 0 0 ((l.getD []).length))=I (sl 8 aY (I ((l.getD []).set i y))):=by
  rw[FI,←hl]
  exact wo et (by rw[hl];omega) hcs
 exact yd rfl (zco hlen hi dT) hz (by first|rfl|simp only[go_sem,seval])
theorem jov {b0 b1 b2 eJ ij j caps l i cs}(hlen:(l.getD []).length≤1073741824)(hi:i<(l.getD []).length)(dT:qm pr (X pr) j (.ptr 5 (i*8)::caps) [b0,b1,b2,eJ,ij,.cells (bJ aY (l.getD []))]=I (.aB [],En,[b0,b1,b2,eJ,ij,.cells cs])):qm pr (X pr) 231 [sl 8 aY l,Iv (i:Int),.fn (.func j) [] caps] [b0,b1,b2,eJ,ij]=I (.ms 5 0 ((l.getD []).length),En,[b0,b1,b2,eJ,ij,.cells cs]):=by
 rw[qn (show pr.bQ 231=I nW from rfl) (by simp)]
 have px:wk 5 0 8 120 [(.str []),(.str []),(Iv 0),(Nl),(Nl),(.str []),(.bool En),(Iv 0)] [b0,b1,b2,eJ,ij,.hole] (I (Lv l)) (I (Lv l))=I ⟨.ms 5 0 (l.getD []).length,En,Gq,[b0,b1,b2,eJ,ij,.cells (cellsOf (Gn (l.getD []).length [(.str []),(.str []),(Iv 0),(Nl),(Nl),(.str []),(.bool En),(Iv 0)]).flatten)]⟩:=by apply CU<;>first|exact hlen|rfl|decide
 have py:xm 6 Gq 8 [b0,b1,b2,eJ,ij,.cells (cellsOf (Gn (l.getD []).length [(.str []),(.str []),(Iv 0),(Nl),(Nl),(.str []),(.bool En),(Iv 0)]).flatten)] (I (.ms 5 0 (l.getD []).length)) (I (sl 8 aY l))=I ⟨Lv l,En,Gq,[b0,b1,b2,eJ,ij,.cells (bJ aY (l.getD []))]⟩:=CV et rfl (by simp[cellsOf]) rfl
 simp only[go_sem,seval,nW,px,py,wu hi,dT]<;>rfl
theorem zgu {j caps l i cs}(hlen:(l.getD []).length≤1073741824)(hi:i<(l.getD []).length)(dT:qm pr (X pr) j (.ptr 0 (i*2)::caps) [.cells (bJ bn (l.getD []))]=I (.aB [],En,[.cells cs])):qm pr (X pr) 271 [sl 2 bn l,Iv (i:Int),.fn (.func j) [] caps] []=I (.ms 0 0 ((l.getD []).length),En,[.cells cs]):=by
 rw[qn (show pr.bQ 271=I sH from rfl) (by simp)]
 have px:wk 0 0 2 24 [(.str []),(Iv 0)] [.hole] (I (Lv l)) (I (Lv l))=I ⟨.ms 0 0 (l.getD []).length,En,Gq,[.cells (cellsOf (Gn (l.getD []).length [(.str []),(Iv 0)]).flatten)]⟩:=by apply CU<;>first|exact hlen|rfl|decide
 have py:xm 1 Gq 2 [.cells (cellsOf (Gn (l.getD []).length [(.str []),(Iv 0)]).flatten)] (I (.ms 0 0 (l.getD []).length)) (I (sl 2 bn l))=I ⟨Lv l,En,Gq,[.cells (bJ bn (l.getD []))]⟩:=CV pw rfl (by simp[cellsOf]) rfl
 simp only[go_sem,seval,sH,px,py,wu hi,dT]<;>rfl
theorem j9u{y:bq} {j:Nat} {caps:List AVal} {l:Option (List bq)} {i:Nat} {cs:List (AVal×Bool)} (hlen:(l.getD []).length≤1073741824) (hi:i<(l.getD []).length) (dT:qm pr (X pr) j (.ptr 0 (i*2)::caps) [.cells (bJ bn (l.getD []))]=I (.aB [],En,[.cells cs])) (hcs:cs.map (·.1)=ze bn ((l.getD []).set i y)):qc pr (X pr) 271 [sl 2 bn l,Iv (i:Int),.fn (.func j) [] caps]=I (sl 2 bn (I ((l.getD []).set i y)),En):=by
 have hl:((l.getD []).set i y).length=(l.getD []).length:=Gs
 have hz:aF [.cells cs] (.ms 0 0 ((l.getD []).length))=I (sl 2 bn (I ((l.getD []).set i y))):=by
  rw[FI,←hl]
  exact wo pw (by rw[hl];omega) hcs
 exact yd rfl (zgu hlen hi dT) hz (by first|rfl|simp only[go_sem,seval])
theorem zf9 {j caps l i cs}(hlen:(l.getD []).length≤1073741824)(hi:i<(l.getD []).length)(dT:qm pr (X pr) j (.ptr 0 (i*3)::caps) [.cells (bJ ja (l.getD []))]=I (.aB [],En,[.cells cs])):qm pr (X pr) 275 [sl 3 ja l,Iv (i:Int),.fn (.func j) [] caps] []=I (.ms 0 0 ((l.getD []).length),En,[.cells cs]):=by
 rw[qn (show pr.bQ 275=I sI from rfl) (by simp)]
 have px:wk 0 0 3 32 [(.str []),(Iv 0),(Iv 0)] [.hole] (I (Lv l)) (I (Lv l))=I ⟨.ms 0 0 (l.getD []).length,En,Gq,[.cells (cellsOf (Gn (l.getD []).length [(.str []),(Iv 0),(Iv 0)]).flatten)]⟩:=by apply CU<;>first|exact hlen|rfl|decide
 have py:xm 1 Gq 3 [.cells (cellsOf (Gn (l.getD []).length [(.str []),(Iv 0),(Iv 0)]).flatten)] (I (.ms 0 0 (l.getD []).length)) (I (sl 3 ja l))=I ⟨Lv l,En,Gq,[.cells (bJ ja (l.getD []))]⟩:=CV sE rfl (by simp[cellsOf]) rfl
 simp only[go_sem,seval,sI,px,py,wu hi,dT]<;>rfl
theorem j2r{y:je} {j:Nat} {caps:List AVal} {l:Option (List je)} {i:Nat} {cs:List (AVal×Bool)} (hlen:(l.getD []).length≤1073741824) (hi:i<(l.getD []).length) (dT:qm pr (X pr) j (.ptr 0 (i*3)::caps) [.cells (bJ ja (l.getD []))]=I (.aB [],En,[.cells cs])) (hcs:cs.map (·.1)=ze ja ((l.getD []).set i y)):qc pr (X pr) 275 [sl 3 ja l,Iv (i:Int),.fn (.func j) [] caps]=I (sl 3 ja (I ((l.getD []).set i y)),En):=by
 have hl:((l.getD []).set i y).length=(l.getD []).length:=Gs
 have hz:aF [.cells cs] (.ms 0 0 ((l.getD []).length))=I (sl 3 ja (I ((l.getD []).set i y))):=by
  rw[FI,←hl]
  exact wo sE (by rw[hl];omega) hcs
 exact yd rfl (zf9 hlen hi dT) hz (by first|rfl|simp only[go_sem,seval])
theorem ze0 {j caps l i cs}(hlen:(l.getD []).length≤1073741824)(hi:i<(l.getD []).length)(dT:qm pr (X pr) j (.ptr 0 (i*2)::caps) [.cells (bJ bn (l.getD []))]=I (.aB [],En,[.cells cs])):qm pr (X pr) 282 [sl 2 bn l,Iv (i:Int),.fn (.func j) [] caps] []=I (.ms 0 0 ((l.getD []).length),En,[.cells cs]):=by
 rw[qn (show pr.bQ 282=I sJ from rfl) (by simp)]
 have px:wk 0 0 2 24 [(.str []),(Iv 0)] [.hole] (I (Lv l)) (I (Lv l))=I ⟨.ms 0 0 (l.getD []).length,En,Gq,[.cells (cellsOf (Gn (l.getD []).length [(.str []),(Iv 0)]).flatten)]⟩:=by apply CU<;>first|exact hlen|rfl|decide
 have py:xm 1 Gq 2 [.cells (cellsOf (Gn (l.getD []).length [(.str []),(Iv 0)]).flatten)] (I (.ms 0 0 (l.getD []).length)) (I (sl 2 bn l))=I ⟨Lv l,En,Gq,[.cells (bJ bn (l.getD []))]⟩:=CV pw rfl (by simp[cellsOf]) rfl
 simp only[go_sem,seval,sJ,px,py,wu hi,dT]<;>rfl
theorem j1g{y:bq} {j:Nat} {caps:List AVal} {l:Option (List bq)} {i:Nat} {cs:List (AVal×Bool)} (hlen:(l.getD []).length≤1073741824) (hi:i<(l.getD []).length) (dT:qm pr (X pr) j (.ptr 0 (i*2)::caps) [.cells (bJ bn (l.getD []))]=I (.aB [],En,[.cells cs])) (hcs:cs.map (·.1)=ze bn ((l.getD []).set i y)):qc pr (X pr) 282 [sl 2 bn l,Iv (i:Int),.fn (.func j) [] caps]=I (sl 2 bn (I ((l.getD []).set i y)),En):=by
 have hl:((l.getD []).set i y).length=(l.getD []).length:=Gs
 have hz:aF [.cells cs] (.ms 0 0 ((l.getD []).length))=I (sl 2 bn (I ((l.getD []).set i y))):=by
  rw[FI,←hl]
  exact wo pw (by rw[hl];omega) hcs
 exact yd rfl (ze0 hlen hi dT) hz (by first|rfl|simp only[go_sem,seval])
end Go.Z
namespace Go.Z
open Go Go.Abs Go.W
def gD {α:Type}(l:Option (List α))(i:Int)(g:α→Option α):Option (Option (List α)):=
 if(l.getD []).length≤1073741824∧0≤i then(match(l.getD [])[i.toNat]? with
  |some x=>(match g x with
   |some y=>I (I ((l.getD []).set i.toNat y))
   |none=>Gq)
  |none=>Gq)else Gq
theorem Av {α:Type}{l i g r}(h:gD l i g=I r):∃(n:Nat) (x y:α),i=(n:Int)∧(l.getD []).length≤1073741824∧(l.getD [])[n]?=I x∧g x=I y∧r=I ((l.getD []).set n y):=by
 unfold gD at h
 split at h
 ·rename_i hc
  split at h
  ·rename_i x hx
   split at h
   ·rename_i y hy
    cases h
    exact⟨i.toNat,x,y,(Int.toNat_of_nonneg hc.2).symm,hc.1,hx,hy,rfl⟩
   ·cases h
  ·cases h
 ·cases h
theorem Y2 {l r i g j caps}(dT:∀(n:Nat) (x y:aS),(l.getD [])[n]?=I x→g x=I y→∃cs,qm pr (X pr) j (.ptr 0 (n*4)::caps) [.cells (bJ qv (l.getD []))]=I (.aB [],En,[.cells cs])∧cs.map (·.1)=ze qv ((l.getD []).set n y))(h:gD l i g=I r):qc pr (X pr) 221 [sl 4 qv l,Iv i,.fn (.func j) [] caps]=I (sl 4 qv r,En):=by
 obtain⟨n,x,y,rfl,hl,hx,hy,rfl⟩:=Av h
 obtain⟨cs,h1,h2⟩:=dT n x y hx hy
 exact j33 hl (Gp.1 hx).1 h1 h2
theorem Y3 {l r i g j caps}(dT:∀(n:Nat) (x y:jd),(l.getD [])[n]?=I x→g x=I y→∃cs,qm pr (X pr) j (.ptr 0 (n*5)::caps) [.cells (bJ jc (l.getD []))]=I (.aB [],En,[.cells cs])∧cs.map (·.1)=ze jc ((l.getD []).set n y))(h:gD l i g=I r):qc pr (X pr) 227 [sl 5 jc l,Iv i,.fn (.func j) [] caps]=I (sl 5 jc r,En):=by
 obtain⟨n,x,y,rfl,hl,hx,hy,rfl⟩:=Av h
 obtain⟨cs,h1,h2⟩:=dT n x y hx hy
 exact j7d hl (Gp.1 hx).1 h1 h2
theorem FL {l r i g j caps}(dT:∀(n:Nat) (x y:ay),(l.getD [])[n]?=I x→g x=I y→∃cs,qm pr (X pr) j (.ptr 0 (n*8)::caps) [.cells (bJ aY (l.getD []))]=I (.aB [],En,[.cells cs])∧cs.map (·.1)=ze aY ((l.getD []).set n y))(h:gD l i g=I r):qc pr (X pr) 231 [sl 8 aY l,Iv i,.fn (.func j) [] caps]=I (sl 8 aY r,En):=by
 obtain⟨n,x,y,rfl,hl,hx,hy,rfl⟩:=Av h
 obtain⟨cs,h1,h2⟩:=dT n x y hx hy
 exact j45 hl (Gp.1 hx).1 h1 h2
theorem j18 {l r i g j caps}(dT:∀(n:Nat) (x y:bq),(l.getD [])[n]?=I x→g x=I y→∃cs,qm pr (X pr) j (.ptr 0 (n*2)::caps) [.cells (bJ bn (l.getD []))]=I (.aB [],En,[.cells cs])∧cs.map (·.1)=ze bn ((l.getD []).set n y))(h:gD l i g=I r):qc pr (X pr) 271 [sl 2 bn l,Iv i,.fn (.func j) [] caps]=I (sl 2 bn r,En):=by
 obtain⟨n,x,y,rfl,hl,hx,hy,rfl⟩:=Av h
 obtain⟨cs,h1,h2⟩:=dT n x y hx hy
 exact j9u hl (Gp.1 hx).1 h1 h2
theorem j24 {l r i g j caps}(dT:∀(n:Nat) (x y:je),(l.getD [])[n]?=I x→g x=I y→∃cs,qm pr (X pr) j (.ptr 0 (n*3)::caps) [.cells (bJ ja (l.getD []))]=I (.aB [],En,[.cells cs])∧cs.map (·.1)=ze ja ((l.getD []).set n y))(h:gD l i g=I r):qc pr (X pr) 275 [sl 3 ja l,Iv i,.fn (.func j) [] caps]=I (sl 3 ja r,En):=by
 obtain⟨n,x,y,rfl,hl,hx,hy,rfl⟩:=Av h
 obtain⟨cs,h1,h2⟩:=dT n x y hx hy
 exact j2r hl (Gp.1 hx).1 h1 h2
theorem j06 {l r i g j caps}(dT:∀(n:Nat) (x y:bq),(l.getD [])[n]?=I x→g x=I y→∃cs,qm pr (X pr) j (.ptr 0 (n*2)::caps) [.cells (bJ bn (l.getD []))]=I (.aB [],En,[.cells cs])∧cs.map (·.1)=ze bn ((l.getD []).set n y))(h:gD l i g=I r):qc pr (X pr) 282 [sl 2 bn l,Iv i,.fn (.func j) [] caps]=I (sl 2 bn r,En):=by
 obtain⟨n,x,y,rfl,hl,hx,hy,rfl⟩:=Av h
 obtain⟨cs,h1,h2⟩:=dT n x y hx hy
 exact j1g hl (Gp.1 hx).1 h1 h2
theorem zdr {l i x}(hx:l[i]?=I x):qm pr (X pr) 240 [.ptr 0 (i*5)] [.cells (bJ jc l)]=I (.aB [],En,[.cells (bJ jc (l.set i { x with held:=Gt }))]):=by
 rw[qn (show pr.bQ 240=I sK from rfl) (by simp)]
 have st:jw (bJ jc l) (i*5+4) [.bool Gt]=I (bJ jc (l.set i { x with held:=Gt })):=mO (o:=4) gE.len hx (Ey rfl) rfl rfl
 simp only[go_sem,seval,sK,st]<;>rfl
def XR (l:Option (List jd))(i:Int):Option (Option (List jd)):=gD l i fun x=>I { x with held:=Gt }
theorem jmh {l i r}(h:XR l i=I r):qc pr (X pr) 227 [sl 5 jc l,Iv i,.fn (.func 240) [] []]=I (sl 5 jc r,En):=
 Y3 (fun n x y hx hy=>by cases hy;exact⟨_,zdr hx,yc⟩) h
theorem zlk {l i x}(hx:l[i]?=I x):qm pr (X pr) 241 [.ptr 0 (i*5)] [.cells (bJ jc l)]=I (.aB [],En,[.cells (bJ jc (l.set i { x with held:=En }))]):=by
 rw[qn (show pr.bQ 241=I sL from rfl) (by simp)]
 have st:jw (bJ jc l) (i*5+4) [.bool En]=I (bJ jc (l.set i { x with held:=En })):=mO (o:=4) gE.len hx (Ey rfl) rfl rfl
 simp only[go_sem,seval,sL,st]<;>rfl
def XS (l:Option (List jd))(i:Int):Option (Option (List jd)):=gD l i fun x=>I { x with held:=En }
theorem ji3 {l i r}(h:XS l i=I r):qc pr (X pr) 227 [sl 5 jc l,Iv i,.fn (.func 241) [] []]=I (sl 5 jc r,En):=
 Y3 (fun n x y hx hy=>by cases hy;exact⟨_,zlk hx,yc⟩) h
theorem zgx {l i x}(hx:l[i]?=I x):qm pr (X pr) 242 [.ptr 0 (i*8)] [.cells (bJ aY l)]=I (.aB [],En,[.cells (bJ aY (l.set i { x with shipped:=Gt }))]):=by
 rw[qn (show pr.bQ 242=I sM from rfl) (by simp)]
 have st:jw (bJ aY l) (i*8+6) [.bool Gt]=I (bJ aY (l.set i { x with shipped:=Gt })):=mO (o:=6) et.len hx (Ey rfl) rfl rfl
 simp only[go_sem,seval,sM,st]<;>rfl
def XV (l:Option (List ay))(i:Int):Option (Option (List ay)):=gD l i fun x=>I { x with shipped:=Gt }
theorem jj1 {l i r}(h:XV l i=I r):qc pr (X pr) 231 [sl 8 aY l,Iv i,.fn (.func 242) [] []]=I (sl 8 aY r,En):=
 FL (fun n x y hx hy=>by cases hy;exact⟨_,zgx hx,yc⟩) h
theorem zfl {l i x}(hx:l[i]?=I x):qm pr (X pr) 243 [.ptr 0 (i*8)] [.cells (bJ aY l)]=I (.aB [],En,[.cells (bJ aY (l.set i { x with ai:=qe .i64 (x.ai+1) }))]):=by
 rw[qn (show pr.bQ 243=I sN from rfl) (by simp)]
 have st:jw (bJ aY l) (i*8+7) [Iv (qe .i64 (x.ai+1))]=I (bJ aY (l.set i { x with ai:=qe .i64 (x.ai+1) })):=mO (o:=7) et.len hx (Ey rfl) rfl rfl
 have Y4:zn (bJ aY l) (i*8+7) 1=I [Iv x.ai]:=vN (o:=7) et.len hx (by decide)
 simp only[go_sem,seval,sN,st,Y4]<;>rfl
def XW (l:Option (List ay))(i:Int):Option (Option (List ay)):=gD l i fun x=>I { x with ai:=qe .i64 (x.ai+1) }
theorem jj0 {l i r}(h:XW l i=I r):qc pr (X pr) 231 [sl 8 aY l,Iv i,.fn (.func 243) [] []]=I (sl 8 aY r,En):=
 FL (fun n x y hx hy=>by cases hy;exact⟨_,zfl hx,yc⟩) h
theorem zgw {l i x v}(hx:l[i]?=I x):qm pr (X pr) 237 [.ptr 0 (i*8),.ah (Iv v)] [.cells (bJ aY l)]=I (.aB [],En,[.cells (bJ aY (l.set i { x with version:=v }))]):=by
 rw[qn (show pr.bQ 237=I sO from rfl) (by simp)]
 have st:jw (bJ aY l) (i*8+2) [Iv v]=I (bJ aY (l.set i { x with version:=v })):=mO (o:=2) et.len hx (Ey rfl) rfl rfl
 simp only[go_sem,seval,sO,st]<;>rfl
def XU (l:Option (List ay))(i:Int)(v:Int):Option (Option (List ay)):=gD l i fun x=>I { x with version:=v }
theorem jms {l i v r}(h:XU l i v=I r):qc pr (X pr) 231 [sl 8 aY l,Iv i,.fn (.func 237) [] [.ah (Iv v)]]=I (sl 8 aY r,En):=
 FL (fun n x y hx hy=>by cases hy;exact⟨_,zgw hx,yc⟩) h
theorem zgj {l i x b}(hx:l[i]?=I x):qm pr (X pr) 238 [.ptr 0 (i*8),.ah (aY b)] [.cells (bJ aY l)]=I (.aB [],En,[.cells (bJ aY (l.set i { x with partner:=b.name }))]):=by
 rw[qn (show pr.bQ 238=I sP from rfl) (by simp)]
 have st:jw (bJ aY l) (i*8+5) [.str b.name]=I (bJ aY (l.set i { x with partner:=b.name })):=mO (o:=5) et.len hx (Ey rfl) rfl rfl
 simp only[go_sem,seval,sP,st,aY]<;>rfl
def vU (l:Option (List ay))(i:Int)(b:ay):Option (Option (List ay)):=gD l i fun x=>I { x with partner:=b.name }
theorem jjw {l i b r}(h:vU l i b=I r):qc pr (X pr) 231 [sl 8 aY l,Iv i,.fn (.func 238) [] [.ah (aY b)]]=I (sl 8 aY r,En):=
 FL (fun n x y hx hy=>by cases hy;exact⟨_,zgj hx,yc⟩) h
theorem zi6 {l i x b}(hx:l[i]?=I x):qm pr (X pr) 239 [.ptr 0 (i*8),.ah (aY b)] [.cells (bJ aY l)]=I (.aB [],En,[.cells (bJ aY (l.set i { x with partner:=b.name }))]):=by
 rw[qn (show pr.bQ 239=I sQ from rfl) (by simp)]
 have st:jw (bJ aY l) (i*8+5) [.str b.name]=I (bJ aY (l.set i { x with partner:=b.name })):=mO (o:=5) et.len hx (Ey rfl) rfl rfl
 simp only[go_sem,seval,sQ,st,aY]<;>rfl
def vV (l:Option (List ay))(i:Int)(b:ay):Option (Option (List ay)):=gD l i fun x=>I { x with partner:=b.name }
theorem jjx {l i b r}(h:vV l i b=I r):qc pr (X pr) 231 [sl 8 aY l,Iv i,.fn (.func 239) [] [.ah (aY b)]]=I (sl 8 aY r,En):=
 FL (fun n x y hx hy=>by cases hy;exact⟨_,zi6 hx,yc⟩) h
theorem zld {l i x v}(hx:l[i]?=I x):qm pr (X pr) 228 [.ptr 0 (i*5),.ah (Iv v)] [.cells (bJ jc l)]=I (.aB [],En,[.cells (bJ jc (l.set i { x with left:=qe .i64 (x.left-v) }))]):=by
 rw[qn (show pr.bQ 228=I sR from rfl) (by simp)]
 have st:jw (bJ jc l) (i*5+3) [Iv (qe .i64 (x.left-v))]=I (bJ jc (l.set i { x with left:=qe .i64 (x.left-v) })):=mO (o:=3) gE.len hx (Ey rfl) rfl rfl
 have Y4:zn (bJ jc l) (i*5+3) 1=I [Iv x.left]:=vN (o:=3) gE.len hx (by decide)
 simp only[go_sem,seval,sR,st,Y4]<;>rfl
def XY (l:Option (List jd))(i:Int)(v:Int):Option (Option (List jd)):=gD l i fun x=>I { x with left:=qe .i64 (x.left-v) }
theorem jnz {l i v r}(h:XY l i v=I r):qc pr (X pr) 227 [sl 5 jc l,Iv i,.fn (.func 228) [] [.ah (Iv v)]]=I (sl 5 jc r,En):=
 Y3 (fun n x y hx hy=>by cases hy;exact⟨_,zld hx,yc⟩) h
theorem zkl {l i x b}(hx:l[i]?=I x):qm pr (X pr) 272 [.ptr 0 (i*2),.ah (bn b)] [.cells (bJ bn l)]=I (.aB [],En,[.cells (bJ bn (l.set i b))]):=by
 rw[qn (show pr.bQ 272=I sS from rfl) (by simp)]
 have st:jw (bJ bn l) (i*2) [.str b.k,Iv b.n]=I (bJ bn (l.set i b)):=mO (o:=0) pw.len hx (Ey rfl) rfl rfl
 simp only[go_sem,seval,sS,st,bn]<;>rfl
def jvp (l:Option (List bq))(i:Int)(b:bq):Option (Option (List bq)):=gD l i fun x=>I b
theorem jic {l i b r}(h:jvp l i b=I r):qc pr (X pr) 271 [sl 2 bn l,Iv i,.fn (.func 272) [] [.ah (bn b)]]=I (sl 2 bn r,En):=
 j18 (fun n x y hx hy=>by cases hy;exact⟨_,zkl hx,yc⟩) h
theorem zkr {l i x b}(hx:l[i]?=I x):qm pr (X pr) 276 [.ptr 0 (i*3),.ah (ja b)] [.cells (bJ ja l)]=I (.aB [],En,[.cells (bJ ja (l.set i b))]):=by
 rw[qn (show pr.bQ 276=I sT from rfl) (by simp)]
 have st:jw (bJ ja l) (i*3) [.str b.k,Iv b.a,Iv b.b]=I (bJ ja (l.set i b)):=mO (o:=0) sE.len hx (Ey rfl) rfl rfl
 simp only[go_sem,seval,sT,st,ja]<;>rfl
def jta (l:Option (List je))(i:Int)(b:je):Option (Option (List je)):=gD l i fun x=>I b
theorem jkc {l i b r}(h:jta l i b=I r):qc pr (X pr) 275 [sl 3 ja l,Iv i,.fn (.func 276) [] [.ah (ja b)]]=I (sl 3 ja r,En):=
 j24 (fun n x y hx hy=>by cases hy;exact⟨_,zkr hx,yc⟩) h
theorem zj6 {l i x b}(hx:l[i]?=I x):qm pr (X pr) 283 [.ptr 0 (i*2),.ah (bn b)] [.cells (bJ bn l)]=I (.aB [],En,[.cells (bJ bn (l.set i b))]):=by
 rw[qn (show pr.bQ 283=I sU from rfl) (by simp)]
 have st:jw (bJ bn l) (i*2) [.str b.k,Iv b.n]=I (bJ bn (l.set i b)):=mO (o:=0) pw.len hx (Ey rfl) rfl rfl
 simp only[go_sem,seval,sU,st,bn]<;>rfl
def ju3 (l:Option (List bq))(i:Int)(b:bq):Option (Option (List bq)):=gD l i fun x=>I b
theorem jii {l i b r}(h:ju3 l i b=I r):qc pr (X pr) 282 [sl 2 bn l,Iv i,.fn (.func 283) [] [.ah (bn b)]]=I (sl 2 bn r,En):=
 j06 (fun n x y hx hy=>by cases hy;exact⟨_,zj6 hx,yc⟩) h
end Go.Z
namespace Go.Z
open Go Go.Abs Go.W
def Ka (a0:bq)(a1:List UInt8):Option Bool:=
 I (decide (a0.k=a1))
theorem Y5 (hp:qh){a0 a1 r}(h:Ka a0 a1=I r):qm pr (X pr) 211 [aN a0,.ah (.str a1)] hp=I (.bool r,En,hp):=by
 unfold Ka at h
 have hr:decide (a0.k=a1)=r:=I.inj h
 subst hr
 rw[qn (show pr.bQ 211=I sV from rfl) (by simp)]
 simp only[go_sem,seval,sV]<;>rfl
def OA (a0:Option (List bq))(aq:List UInt8)(s0:Int):Option (Int⊕(Int⊕Int)):=
 cond (decide (s0<((a0.getD []).length:Int)))
  (qa (qr (a0.getD []) s0) fun fq=>
  qa (Ka fq aq) fun eh=>
  cond eh
   (I (.inr (.inl s0)))
   (I (.inl (qe .i64 (s0+1)))))
  (I (.inr (.inr s0)))
def OB (a0:Option (List bq))(aq:List UInt8)(hp:qh)(s0:Int):bf:=⟨[(0,sl 2 bn a0,En),(1,.fn (.func 211) [] [.ah (.str aq)],En),(7,Lv a0,En),(8,Iv s0,En)],hp⟩
def OC (a0:Option (List bq))(aq:List UInt8)(hp:qh):Int⊕Int→jf×bf
 | .inl d=>(.ret,⟨[(4,Iv d,En)],hp⟩)
 | .inr d=>(.exit 0,⟨[(0,sl 2 bn a0,En),(1,.fn (.func 211) [] [.ah (.str aq)],En),(7,Lv a0,En),(8,Iv d,En),(9,.bool En,En)],hp⟩)
theorem jrq (a0:Option (List bq))(aq:List UInt8)(hp:qh)(s0:Int)(r)(h:OA a0 aq s0=I r):jz pr pz (OB a0 aq hp) (OC a0 aq hp) s0 r:=by
 unfold OA at h
 repeat' first|(replace h:=qb h;obtain⟨d,g,h⟩:=h;with_reducible first|replace g:=Y5 hp g|skip)|(replace h:=qd h;rcases h with⟨g,h⟩|⟨g,h⟩)
 all_goals (cases h<;>((first|refine qz ?_|refine jp ?_);simp only[go_sem,seval,pz,OB,jg,OC, *]<;>rfl))
theorem jqw (a0:Option (List bq))(aq:List UInt8)(hp:qh){s0 d}(h:bm (OA a0 aq) s0=I d):X pr (.loop pz) (OB a0 aq hp s0)=I (OC a0 aq hp d):=zj (jrq a0 aq hp) h
def I0 (a0:Option (List bq))(aq:List UInt8):Option Int:=
 qa (bm (OA a0 aq) 0) fun d19=>match d19 with
  | .inl d21=>
   I d21
  | .inr d22=>
   I (-1)
theorem j68 (hp:qh){a0 aq r}(h:I0 a0 aq=I r):qm pr (X pr) 250 [sl 2 bn a0,.fn (.func 211) [] [.ah (.str aq)]] hp=I (Iv r,En,hp):=by
 unfold I0 at h
 rw[qn (show pr.bQ 250=I iZ from rfl) (by simp)]
 repeat' first|(replace h:=qb h;obtain⟨d,g,h⟩:=h;with_reducible first|(replace g:=jqw a0 aq hp g;rcases d with d|d<;>dsimp only[OB,OC,zk]at g h)|skip)|(replace h:=qd h;rcases h with⟨g,h⟩|⟨g,h⟩)
 all_goals (cases h<;>(simp only[go_sem,seval,iZ, *]<;>rfl))
def OD (a0:Option (List bq))(aq:List UInt8)(s0:Int):Option (Int⊕(Int⊕Int)):=
 cond (decide (s0<((a0.getD []).length:Int)))
  (qa (qr (a0.getD []) s0) fun fq=>
  qa (Ka fq aq) fun eh=>
  cond eh
   (I (.inr (.inl s0)))
   (I (.inl (qe .i64 (s0+1)))))
  (I (.inr (.inr s0)))
def OE (a0:Option (List bq))(aq:List UInt8)(s0:Int):bf:=⟨[(0,sl 2 bn a0,En),(1,.fn (.func 211) [] [.ah (.str aq)],En),(7,Lv a0,En),(8,Iv s0,En)],[]⟩
def OG (a0:Option (List bq))(aq:List UInt8):Int⊕Int→jf×bf
 | .inl d=>(.ret,⟨[(4,Iv d,En)],[]⟩)
 | .inr d=>(.exit 0,⟨[(0,sl 2 bn a0,En),(1,.fn (.func 211) [] [.ah (.str aq)],En),(7,Lv a0,En),(8,Iv d,En),(9,.bool En,En)],[]⟩)
theorem jpf (a0:Option (List bq))(aq:List UInt8)(s0:Int)(r)(h:OD a0 aq s0=I r):jz pr pz (OE a0 aq) (OG a0 aq) s0 r:=by
 unfold OD at h
 repeat' first|(replace h:=qb h;obtain⟨d,g,h⟩:=h;with_reducible first|replace g:=Y5 [] g|skip)|(replace h:=qd h;rcases h with⟨g,h⟩|⟨g,h⟩)
 all_goals (cases h<;>((first|refine qz ?_|refine jp ?_);simp only[go_sem,seval,pz,OE,jg,OG, *]<;>rfl))
theorem jqz (a0:Option (List bq))(aq:List UInt8){s0 d}(h:bm (OD a0 aq) s0=I d):X pr (.loop pz) (OE a0 aq s0)=I (OG a0 aq d):=zj (jpf a0 aq) h
def IU (a0:Option (List bq))(aq:List UInt8):Option Int:=
 qa (bm (OD a0 aq) 0) fun d19=>match d19 with
  | .inl d21=>
   I d21
  | .inr d22=>
   I (-1)
theorem j28 {a0 aq r}(h:IU a0 aq=I r):qc pr (X pr) 250 [sl 2 bn a0,.fn (.func 211) [] [.ah (.str aq)]]=I (Iv r,En):=by
 unfold IU at h
 refine zh iZ ?_
 repeat' first|(replace h:=qb h;obtain⟨d,g,h⟩:=h;with_reducible first|(replace g:=jqz a0 aq g;rcases d with d|d<;>dsimp only[OE,OG,zk]at g h)|skip)|(replace h:=qd h;rcases h with⟨g,h⟩|⟨g,h⟩)
 all_goals (cases h<;>(simp only[go_sem,seval,iZ, *];exact⟨_,rfl⟩))
def IZ (a0:Option (List bq))(aq:List UInt8):Option Bool:=
 qa (I0 a0 aq) fun v1=>
 I (decide (0≤v1))
theorem j7h {a0 aq r}(h:IZ a0 aq=I r):qc pr (X pr) 193 [sl 2 bn a0,.fn (.func 211) [] [.ah (.str aq)]]=I (.bool r,En):=by
 unfold IZ at h
 refine zh lq ?_
 repeat' first|(replace h:=qb h;obtain⟨d,g,h⟩:=h;with_reducible first|replace g:=j68 [] g|skip)|(replace h:=qd h;rcases h with⟨g,h⟩|⟨g,h⟩)
 all_goals (cases h<;>(simp only[go_sem,seval,lq, *];exact⟨_,rfl⟩))
def Y6 (a0:bq)(a1:jd):Option Bool:=
 I (decide (a0.k=a1.kind))
theorem zic (hp:qh){a0 a1 r}(h:Y6 a0 a1=I r):qm pr (X pr) 226 [aN a0,.ah (aL a1)] hp=I (.bool r,En,hp):=by
 unfold Y6 at h
 have hr:decide (a0.k=a1.kind)=r:=I.inj h
 subst hr
 rw[qn (show pr.bQ 226=I sW from rfl) (by simp)]
 simp only[go_sem,seval,sW]<;>rfl
def OH (a0:Option (List bq))(aq:jd)(s0:Int):Option (Int⊕(Int⊕Int)):=
 cond (decide (s0<((a0.getD []).length:Int)))
  (qa (qr (a0.getD []) s0) fun fq=>
  qa (Y6 fq aq) fun eh=>
  cond eh
   (I (.inr (.inl s0)))
   (I (.inl (qe .i64 (s0+1)))))
  (I (.inr (.inr s0)))
def OI (a0:Option (List bq))(aq:jd)(hp:qh)(s0:Int):bf:=⟨[(0,sl 2 bn a0,En),(1,.fn (.func 226) [] [.ah (aL aq)],En),(7,Lv a0,En),(8,Iv s0,En)],hp⟩
def OJ (a0:Option (List bq))(aq:jd)(hp:qh):Int⊕Int→jf×bf
 | .inl d=>(.ret,⟨[(4,Iv d,En)],hp⟩)
 | .inr d=>(.exit 0,⟨[(0,sl 2 bn a0,En),(1,.fn (.func 226) [] [.ah (aL aq)],En),(7,Lv a0,En),(8,Iv d,En),(9,.bool En,En)],hp⟩)
theorem jpe (a0:Option (List bq))(aq:jd)(hp:qh)(s0:Int)(r)(h:OH a0 aq s0=I r):jz pr pz (OI a0 aq hp) (OJ a0 aq hp) s0 r:=by
 unfold OH at h
 repeat' first|(replace h:=qb h;obtain⟨d,g,h⟩:=h;with_reducible first|replace g:=zic hp g|skip)|(replace h:=qd h;rcases h with⟨g,h⟩|⟨g,h⟩)
 all_goals (cases h<;>((first|refine qz ?_|refine jp ?_);simp only[go_sem,seval,pz,OI,jg,OJ, *]<;>rfl))
theorem jq7 (a0:Option (List bq))(aq:jd)(hp:qh){s0 d}(h:bm (OH a0 aq) s0=I d):X pr (.loop pz) (OI a0 aq hp s0)=I (OJ a0 aq hp d):=zj (jpe a0 aq hp) h
def I2 (a0:Option (List bq))(aq:jd):Option Int:=
 qa (bm (OH a0 aq) 0) fun d19=>match d19 with
  | .inl d21=>
   I d21
  | .inr d22=>
   I (-1)
theorem j40 (hp:qh){a0 aq r}(h:I2 a0 aq=I r):qm pr (X pr) 250 [sl 2 bn a0,.fn (.func 226) [] [.ah (aL aq)]] hp=I (Iv r,En,hp):=by
 unfold I2 at h
 rw[qn (show pr.bQ 250=I iZ from rfl) (by simp)]
 repeat' first|(replace h:=qb h;obtain⟨d,g,h⟩:=h;with_reducible first|(replace g:=jq7 a0 aq hp g;rcases d with d|d<;>dsimp only[OI,OJ,zk]at g h)|skip)|(replace h:=qd h;rcases h with⟨g,h⟩|⟨g,h⟩)
 all_goals (cases h<;>(simp only[go_sem,seval,iZ, *]<;>rfl))
def I1 (a0:Option (List bq))(aq:jd):Option Bool:=
 qa (I2 a0 aq) fun v1=>
 I (decide (0≤v1))
theorem j6z {a0 aq r}(h:I1 a0 aq=I r):qc pr (X pr) 193 [sl 2 bn a0,.fn (.func 226) [] [.ah (aL aq)]]=I (.bool r,En):=by
 unfold I1 at h
 refine zh lq ?_
 repeat' first|(replace h:=qb h;obtain⟨d,g,h⟩:=h;with_reducible first|replace g:=j40 [] g|skip)|(replace h:=qd h;rcases h with⟨g,h⟩|⟨g,h⟩)
 all_goals (cases h<;>(simp only[go_sem,seval,lq, *];exact⟨_,rfl⟩))
def Nw (a0:bq)(mc:List UInt8):Option Bool:=
 qa (Ka a0 mc) fun v1=>
 I (!v1)
theorem ziz (hp:qh){a0 mc r}(h:Nw a0 mc=I r):qm pr (X pr) 215 [aN a0,.ah (.fn (.func 211) [] [.ah (.str mc)])] hp=I (.bool r,En,hp):=by
 unfold Nw at h
 obtain⟨v1,h2,h⟩:=qb h
 have sX:qm pr (X pr) 211 [aN a0,.ah (.str mc)] hp=I (.bool v1,En,hp):=Y5 hp h2
 have hr:(!v1)=r:=I.inj h
 subst hr
 rw[qn (show pr.bQ 215=I sY from rfl) (by simp)]
 simp only[go_sem,seval,sY,sX]<;>rfl
def IY (a0:Option (List bq))(b9:List UInt8)(s0:(Option (List bq))×Int×Bool):Option (((Option (List bq))×Int×Bool)⊕(((Option (List bq))×Bool×Int))):=
 cond (decide (s0.2.1<((a0.getD []).length:Int)))
  (qa (qr (a0.getD []) s0.2.1) fun v20=>
  qa (Nw v20 b9) fun v22=>
  cond v22
   (cond s0.2.2
    (qa (bH s0.1 [v20]) fun v26=>
    I (.inl (v26,qe .i64 (s0.2.1+1),Gt)))
    (cond s0.1.isNone
     (qa (bH s0.1 [v20]) fun ik=>
     I (.inl (ik,qe .i64 (s0.2.1+1),Gt)))
     (Gq)))
   (I (.inl (s0.1,qe .i64 (s0.2.1+1),s0.2.2))))
  (I (.inr (s0.1,s0.2.2,s0.2.1)))
def OL (a0:Option (List bq))(b9:List UInt8)(hp:qh)(s0:(Option (List bq))×Int×Bool):bf:=⟨[(1,.fn (.func 215) [] [.ah (.fn (.func 211) [] [.ah (.str b9)])],En),(5,sl 2 bn s0.1,s0.2.2),(8,sl 2 bn a0,En),(9,Lv a0,En),(10,Iv s0.2.1,En)],hp⟩
def OM (a0:Option (List bq))(b9:List UInt8)(hp:qh)(d:((Option (List bq))×Bool×Int)):jf×bf:=(.exit 0,⟨[(1,.fn (.func 215) [] [.ah (.fn (.func 211) [] [.ah (.str b9)])],En),(5,sl 2 bn d.1,d.2.1),(8,sl 2 bn a0,En),(9,Lv a0,En),(10,Iv d.2.2,En),(11,.bool En,En)],hp⟩)
theorem jvo (a0:Option (List bq))(b9:List UInt8)(hp:qh)(s0:(Option (List bq))×Int×Bool)(r)(h:IY a0 b9 s0=I r):jz pr OO (OL a0 b9 hp) (OM a0 b9 hp) s0 r:=by
 unfold IY at h
 repeat' first|(replace h:=qb h;obtain⟨d,g,h⟩:=h;with_reducible first|replace g:=ziz hp g|replace g:=B4 g|skip)|(replace h:=qd h;rcases h with⟨g,h⟩|⟨g,h⟩)
 all_goals (cases h<;>((first|refine qz ?_|refine jp ?_);simp only[go_sem,seval,OO,OL,jg,OM, *]<;>rfl))
theorem jun (a0:Option (List bq))(b9:List UInt8)(hp:qh){s0 d}(h:bm (IY a0 b9) s0=I d):X pr (.loop OO) (OL a0 b9 hp s0)=I (OM a0 b9 hp d):=zj (jvo a0 b9 hp) h
def IX (a0:Option (List bq))(b9:List UInt8):Option ((Option (List bq))×Bool):=
 qa (bm (IY a0 b9) (Gq,0,En)) fun d31=>
 I (d31.1,d31.2.1)
theorem zga (hp:qh){a0 b9 r}(h:IX a0 b9=I r):qm pr (X pr) 214 [sl 2 bn a0,.fn (.func 215) [] [.ah (.fn (.func 211) [] [.ah (.str b9)])]] hp=I (sl 2 bn r.1,r.2,hp):=by
 unfold IX at h
 rw[qn (show pr.bQ 214=I sZ from rfl) (by simp)]
 repeat' first|(replace h:=qb h;obtain⟨d,g,h⟩:=h;with_reducible first|(replace g:=jun a0 b9 hp g;dsimp only[OL,OM,zk]at g h)|skip)|(replace h:=qd h;rcases h with⟨g,h⟩|⟨g,h⟩)
 all_goals (cases h<;>(simp only[go_sem,seval,sZ, *]<;>rfl))
def IQ (a0:Option (List bq))(a1:bq)(dS:List UInt8):Option ((Option (List bq))×Bool):=
 qa (IU a0 dS) fun v1=>
 cond (decide (0≤v1))
  (qa (jvp a0 v1 a1) fun v4=>
  I (v4,En))
  (qa (Nu a0 a1) fun v6=>
  I (v6,Gt))
theorem zl2 {a0 a1 dS r}(h:IQ a0 a1 dS=I r):qc pr (X pr) 216 [sl 2 bn a0,aN a1,.fn (.func 211) [] [.ah (.str dS)]]=I (sl 2 bn r.1,r.2):=by
 unfold IQ at h
 refine yv s6 ?_
 repeat' first|(replace h:=qb h;obtain⟨d,g,h⟩:=h; (with_reducible first|replace g:=j28 g|replace g:=jic g|replace g:=zkb g|skip);try dsimp only[zk,lD,G7,jm,j9,jc,qv,aY,zo,vev,bn,ja,yq,aE,aR,aU,aL,aP,aD]at g)|(replace h:=qd h;rcases h with⟨g,h⟩|⟨g,h⟩)
 all_goals (cases h<;>(simp only[go_sem,seval,s6, *];exact⟨_,rfl⟩))
def f217 (a0:je)(a1:je):Option Bool:=
 I (decide (a0.k=a1.k))
theorem zdx (hp:qh){a0 a1 r}(h:f217 a0 a1=I r):qm pr (X pr) 217 [aT a0,.ah (aT a1)] hp=I (.bool r,En,hp):=by
 unfold f217 at h
 have hr:decide (a0.k=a1.k)=r:=I.inj h
 subst hr
 rw[qn (show pr.bQ 217=I s7 from rfl) (by simp)]
 simp only[go_sem,seval,s7]<;>rfl
def OP (a0:Option (List je))(aq:je)(s0:Int):Option (Int⊕(Int⊕Int)):=
 cond (decide (s0<((a0.getD []).length:Int)))
  (qa (qr (a0.getD []) s0) fun fq=>
  qa (f217 fq aq) fun eh=>
  cond eh
   (I (.inr (.inl s0)))
   (I (.inl (qe .i64 (s0+1)))))
  (I (.inr (.inr s0)))
def OQ (a0:Option (List je))(aq:je)(s0:Int):bf:=⟨[(0,sl 3 ja a0,En),(1,.fn (.func 217) [] [.ah (aT aq)],En),(7,Lv a0,En),(8,Iv s0,En)],[]⟩
def OS (a0:Option (List je))(aq:je):Int⊕Int→jf×bf
 | .inl d=>(.ret,⟨[(4,Iv d,En)],[]⟩)
 | .inr d=>(.exit 0,⟨[(0,sl 3 ja a0,En),(1,.fn (.func 217) [] [.ah (aT aq)],En),(7,Lv a0,En),(8,Iv d,En),(9,.bool En,En)],[]⟩)
theorem jsb (a0:Option (List je))(aq:je)(s0:Int)(r)(h:OP a0 aq s0=I r):jz pr CW (OQ a0 aq) (OS a0 aq) s0 r:=by
 unfold OP at h
 repeat' first|(replace h:=qb h;obtain⟨d,g,h⟩:=h;with_reducible first|replace g:=zdx [] g|skip)|(replace h:=qd h;rcases h with⟨g,h⟩|⟨g,h⟩)
 all_goals (cases h<;>((first|refine qz ?_|refine jp ?_);simp only[go_sem,seval,CW,OQ,jg,OS, *]<;>rfl))
theorem jpr (a0:Option (List je))(aq:je){s0 d}(h:bm (OP a0 aq) s0=I d):X pr (.loop CW) (OQ a0 aq s0)=I (OS a0 aq d):=zj (jsb a0 aq) h
def zV (a0:Option (List je))(aq:je):Option Int:=
 qa (bm (OP a0 aq) 0) fun d19=>match d19 with
  | .inl d21=>
   I d21
  | .inr d22=>
   I (-1)
theorem jo9 {a0 aq r}(h:zV a0 aq=I r):qc pr (X pr) 274 [sl 3 ja a0,.fn (.func 217) [] [.ah (aT aq)]]=I (Iv r,En):=by
 unfold zV at h
 refine zh nX ?_
 repeat' first|(replace h:=qb h;obtain⟨d,g,h⟩:=h;with_reducible first|(replace g:=jpr a0 aq g;rcases d with d|d<;>dsimp only[OQ,OS,zk]at g h)|skip)|(replace h:=qd h;rcases h with⟨g,h⟩|⟨g,h⟩)
 all_goals (cases h<;>(simp only[go_sem,seval,nX, *];exact⟨_,rfl⟩))
def I3 (a0:Option (List je))(aq:je):Option Bool:=
 qa (zV a0 aq) fun v1=>
 I (decide (0≤v1))
theorem j11 {a0 aq r}(h:I3 a0 aq=I r):qc pr (X pr) 218 [sl 3 ja a0,.fn (.func 217) [] [.ah (aT aq)]]=I (.bool r,En):=by
 unfold I3 at h
 refine zh nY ?_
 repeat' first|(replace h:=qb h;obtain⟨d,g,h⟩:=h;with_reducible first|replace g:=jo9 g|skip)|(replace h:=qd h;rcases h with⟨g,h⟩|⟨g,h⟩)
 all_goals (cases h<;>(simp only[go_sem,seval,nY, *];exact⟨_,rfl⟩))
def IV (a0:Option (List je))(a1:je)(dS:je):Option ((Option (List je))×Bool):=
 qa (zV a0 dS) fun v1=>
 cond (decide (0≤v1))
  (qa (jta a0 v1 a1) fun v4=>
  I (v4,En))
  (qa (f277 a0 a1) fun v6=>
  I (v6,Gt))
theorem ze8 {a0 a1 dS r}(h:IV a0 a1 dS=I r):qc pr (X pr) 220 [sl 3 ja a0,aT a1,.fn (.func 217) [] [.ah (aT dS)]]=I (sl 3 ja r.1,r.2):=by
 unfold IV at h
 refine yv s9 ?_
 repeat' first|(replace h:=qb h;obtain⟨d,g,h⟩:=h; (with_reducible first|replace g:=jo9 g|replace g:=jkc g|replace g:=zja g|skip);try dsimp only[zk,lD,G7,jm,j9,jc,qv,aY,zo,vev,bn,ja,yq,aE,aR,aU,aL,aP,aD]at g)|(replace h:=qd h;rcases h with⟨g,h⟩|⟨g,h⟩)
 all_goals (cases h<;>(simp only[go_sem,seval,s9, *];exact⟨_,rfl⟩))
def Nx (a0:je)(a1:GEv):Option Bool:=
 qa (qr (a1.names.getD []) 1) fun v1=>
 I (decide (a0.k=v1))
theorem zgq (hp:qh){a0 a1 r}(h:Nx a0 a1=I r):qm pr (X pr) 234 [aT a0,.ah (aE a1)] hp=I (.bool r,En,hp):=by
 unfold Nx at h
 obtain⟨v1,h2,h⟩:=qb h
 have hr:decide (a0.k=v1)=r:=I.inj h
 subst hr
 rw[qn (show pr.bQ 234=I tc from rfl) (by simp)]
 simp only[go_sem,seval,tc,yb h2]<;>rfl
def I8 (a0:Option (List je))(aq:GEv)(s0:Int):Option (Int⊕(Int⊕Int)):=
 cond (decide (s0<((a0.getD []).length:Int)))
  (qa (qr (a0.getD []) s0) fun fq=>
  qa (Nx fq aq) fun eh=>
  cond eh
   (I (.inr (.inl s0)))
   (I (.inl (qe .i64 (s0+1)))))
  (I (.inr (.inr s0)))
def OT (a0:Option (List je))(aq:GEv)(s0:Int):bf:=⟨[(0,sl 3 ja a0,En),(1,.fn (.func 234) [] [.ah (aE aq)],En),(7,Lv a0,En),(8,Iv s0,En)],[]⟩
def OU (a0:Option (List je))(aq:GEv):Int⊕Int→jf×bf
 | .inl d=>(.ret,⟨[(4,Iv d,En)],[]⟩)
 | .inr d=>(.exit 0,⟨[(0,sl 3 ja a0,En),(1,.fn (.func 234) [] [.ah (aE aq)],En),(7,Lv a0,En),(8,Iv d,En),(9,.bool En,En)],[]⟩)
theorem jpk (a0:Option (List je))(aq:GEv)(s0:Int)(r)(h:I8 a0 aq s0=I r):jz pr CW (OT a0 aq) (OU a0 aq) s0 r:=by
 unfold I8 at h
 repeat' first|(replace h:=qb h;obtain⟨d,g,h⟩:=h;with_reducible first|replace g:=zgq [] g|skip)|(replace h:=qd h;rcases h with⟨g,h⟩|⟨g,h⟩)
 all_goals (cases h<;>((first|refine qz ?_|refine jp ?_);simp only[go_sem,seval,CW,OT,jg,OU, *]<;>rfl))
theorem jph (a0:Option (List je))(aq:GEv){s0 d}(h:bm (I8 a0 aq) s0=I d):X pr (.loop CW) (OT a0 aq s0)=I (OU a0 aq d):=zj (jpk a0 aq) h
def I5 (a0:Option (List je))(aq:GEv):Option Int:=
 qa (bm (I8 a0 aq) 0) fun d19=>match d19 with
  | .inl d21=>
   I d21
  | .inr d22=>
   I (-1)
theorem j01 {a0 aq r}(h:I5 a0 aq=I r):qc pr (X pr) 274 [sl 3 ja a0,.fn (.func 234) [] [.ah (aE aq)]]=I (Iv r,En):=by
 unfold I5 at h
 refine zh nX ?_
 repeat' first|(replace h:=qb h;obtain⟨d,g,h⟩:=h;with_reducible first|(replace g:=jph a0 aq g;rcases d with d|d<;>dsimp only[OT,OU,zk]at g h)|skip)|(replace h:=qd h;rcases h with⟨g,h⟩|⟨g,h⟩)
 all_goals (cases h<;>(simp only[go_sem,seval,nX, *];exact⟨_,rfl⟩))
def I4 (a0:Option (List je))(aq:GEv):Option Bool:=
 qa (I5 a0 aq) fun v1=>
 I (decide (0≤v1))
theorem j20 {a0 aq r}(h:I4 a0 aq=I r):qc pr (X pr) 218 [sl 3 ja a0,.fn (.func 234) [] [.ah (aE aq)]]=I (.bool r,En):=by
 unfold I4 at h
 refine zh nY ?_
 repeat' first|(replace h:=qb h;obtain⟨d,g,h⟩:=h;with_reducible first|replace g:=j01 g|skip)|(replace h:=qd h;rcases h with⟨g,h⟩|⟨g,h⟩)
 all_goals (cases h<;>(simp only[go_sem,seval,nY, *];exact⟨_,rfl⟩))
def Y7 (a0:bq)(a1:jd):Option Bool:=
 I (decide (a0.k=a1.name))
theorem zhg (hp:qh){a0 a1 r}(h:Y7 a0 a1=I r):qm pr (X pr) 229 [aN a0,.ah (aL a1)] hp=I (.bool r,En,hp):=by
 unfold Y7 at h
 have hr:decide (a0.k=a1.name)=r:=I.inj h
 subst hr
 rw[qn (show pr.bQ 229=I tf from rfl) (by simp)]
 simp only[go_sem,seval,tf]<;>rfl
def OV (a0:Option (List bq))(aq:jd)(s0:Int):Option (Int⊕(Int⊕Int)):=
 cond (decide (s0<((a0.getD []).length:Int)))
  (qa (qr (a0.getD []) s0) fun fq=>
  qa (Y7 fq aq) fun eh=>
  cond eh
   (I (.inr (.inl s0)))
   (I (.inl (qe .i64 (s0+1)))))
  (I (.inr (.inr s0)))
def OW (a0:Option (List bq))(aq:jd)(s0:Int):bf:=⟨[(0,sl 2 bn a0,En),(1,.fn (.func 229) [] [.ah (aL aq)],En),(7,Lv a0,En),(8,Iv s0,En)],[]⟩
def OX (a0:Option (List bq))(aq:jd):Int⊕Int→jf×bf
 | .inl d=>(.ret,⟨[(4,Iv d,En)],[]⟩)
 | .inr d=>(.exit 0,⟨[(0,sl 2 bn a0,En),(1,.fn (.func 229) [] [.ah (aL aq)],En),(7,Lv a0,En),(8,Iv d,En),(9,.bool En,En)],[]⟩)
theorem jwl (a0:Option (List bq))(aq:jd)(s0:Int)(r)(h:OV a0 aq s0=I r):jz pr OY (OW a0 aq) (OX a0 aq) s0 r:=by
 unfold OV at h
 repeat' first|(replace h:=qb h;obtain⟨d,g,h⟩:=h;with_reducible first|replace g:=zhg [] g|skip)|(replace h:=qd h;rcases h with⟨g,h⟩|⟨g,h⟩)
 all_goals (cases h<;>((first|refine qz ?_|refine jp ?_);simp only[go_sem,seval,OY,OW,jg,OX, *]<;>rfl))
theorem jw9 (a0:Option (List bq))(aq:jd){s0 d}(h:bm (OV a0 aq) s0=I d):X pr (.loop OY) (OW a0 aq s0)=I (OX a0 aq d):=zj (jwl a0 aq) h
def zW (a0:Option (List bq))(aq:jd):Option Int:=
 qa (bm (OV a0 aq) 0) fun d19=>match d19 with
  | .inl d21=>
   I d21
  | .inr d22=>
   I (-1)
theorem ju8 {a0 aq r}(h:zW a0 aq=I r):qc pr (X pr) 230 [sl 2 bn a0,.fn (.func 229) [] [.ah (aL aq)]]=I (Iv r,En):=by
 unfold zW at h
 refine zh ti ?_
 repeat' first|(replace h:=qb h;obtain⟨d,g,h⟩:=h;with_reducible first|(replace g:=jw9 a0 aq g;rcases d with d|d<;>dsimp only[OW,OX,zk]at g h)|skip)|(replace h:=qd h;rcases h with⟨g,h⟩|⟨g,h⟩)
 all_goals (cases h<;>(simp only[go_sem,seval,ti, *];exact⟨_,rfl⟩))
def IW (a0:Option (List bq))(a1:bq)(dS:jd):Option ((Option (List bq))×Bool):=
 qa (zW a0 dS) fun v1=>
 cond (decide (0≤v1))
  (qa (ju3 a0 v1 a1) fun v4=>
  I (v4,En))
  (qa (f284 a0 a1) fun v6=>
  I (v6,Gt))
theorem zdg {a0 a1 dS r}(h:IW a0 a1 dS=I r):qc pr (X pr) 233 [sl 2 bn a0,aN a1,.fn (.func 229) [] [.ah (aL dS)]]=I (sl 2 bn r.1,r.2):=by
 unfold IW at h
 refine yv tj ?_
 repeat' first|(replace h:=qb h;obtain⟨d,g,h⟩:=h; (with_reducible first|replace g:=ju8 g|replace g:=jii g|replace g:=zf1 g|skip);try dsimp only[zk,lD,G7,jm,j9,jc,qv,aY,zo,vev,bn,ja,yq,aE,aR,aU,aL,aP,aD]at g)|(replace h:=qd h;rcases h with⟨g,h⟩|⟨g,h⟩)
 all_goals (cases h<;>(simp only[go_sem,seval,tj, *];exact⟨_,rfl⟩))
end Go.Z
end
