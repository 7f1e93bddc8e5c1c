/- Chapter 10. -/
import Derived.Test.YtimdocpnkimlfaaGreatDoorW1
set_option linter.unusedVariables false
set_option linter.unusedSimpArgs false
set_option maxRecDepth 100000
noncomputable section
open Option renaming some→I,none→Gh
open Bool renaming false→En,true→Gd,and_self→Gn,false_and→Hc
open Nat renaming le_of_ble_eq_true→Ga,ble_eq_true_of_le→Gj,beq_refl→Gq,beq→Gt,blt_eq→G9
open List renaming getElem?_eq_some_iff→Gb,replicate→Ge,length_set→Gi,map→Gm,length_map→Gr,drop_eq_nil_of_le→Gs,take_of_length_le→Gz,nil_append→G7,all→G8,append_nil→Ha,take_zero→Hb
namespace Go.Z
open Go Go.Abs Go.W
section
variable {p:jz}{xc:XC}{h0:Nat}{al:Option (List Nat)}{e:Env}{h:qi}{α:Type}
structure pe (f:α→AVal)(sz:Nat):Prop where
 len:∀x,(f x).flat.length=sz
 sc:∀x,(f x).flat.all qk=Gd
 ag:∀x,f x=.agg (f x).flat
 ref:∀x,(f x).flat.any Kl=Gd
 big:1<sz
variable {f:α→AVal}{sz:Nat}
theorem jls (E:pe f sz)(l:List α):(j9 f l).all qk=Gd:=by
 induction l with
 |nil=>rfl
 |cons x l ih=>rw[wH,List.all_append,E.sc,ih];rfl
theorem q7j (E:pe f sz):∀(l:List α),mf sz l.length (j9 f l)=l.map f
 | []=>rfl
 |x::l=>by
  have hb:Gt sz 1=En:=by
   have:=E.big
   cases h:Gt sz 1 with
   |false=>rfl
   |true=>have:=Nat.eq_of_beq_eq_true h;omega
  have hl:=E.len x
  show(bif Gt sz 1 then(j9 f (x::l)).headD .undef else .agg ((j9 f (x::l)).take sz))::mf sz l.length ((j9 f (x::l)).drop sz)=_
  rw[hb,cond_false,wH,List.take_append_of_le_length (by omega),List.drop_append_of_le_length (by omega),Gz (by omega),Gs (by omega),G7,q7j E l,←E.ag]
  rfl
theorem vR (E:pe f sz){l}(hl:0<l.length){cs}(hc:cs.map (·.1)=j9 f l):Mp (I cs) 0 l.length=I (.list En sz (l.map f)):=by
 have dY:cs.length=l.length*sz:=by rw[←Gr (f:=(·.1)),hc,G6 E.len]
 have hdiv:cs.length / l.length=sz:=by rw[dY];exact Nat.mul_div_cancel_left _ hl
 have XX:cs.any (fun c=>Kl c.1)=Gd:=by
  cases l with
  |nil=>cases hl
  |cons x l=>
   have:(cs.map (·.1)).any Kl=Gd:=by rw[hc,wH,List.any_append,E.ref];rfl
   rw[List.any_map]at this
   exact this
 have hr:Dq 0 l.length cs=Gd:=by
  have hb:Nat.blt 1 sz=Gd:=G9.mpr E.big
  rw[Dq,hdiv,hb,XX,dY,Gq,Gq];rfl
 unfold Mp
 simp only[hr,cond_true,hdiv]
 rw[hc,q7j E]
theorem Cf {r n XY zero}(hz:zero.length=sz)(hs:zero.all qk=Gd)(h1:0<sz)(hn:n≤1073741824)(hb:XY≤4096){h'}(hh:aS h0 h r (.cells (cellsOf (Ge n zero).flatten))=I h'):
  vN h0 r sz XY zero h (I (Iv (n:Int))) (I (Iv (n:Int)))=I ⟨.ms (h0+r) 0 n,En,Gh,h'⟩:=by
 show(bif Gt n n&&Nat.ble n 1073741824&&Nat.ble XY 4096&&Gt zero.length sz&&Nat.blt 0 sz&&zero.all qk then _ else _)=_
 rw[Gq,Gj hn,Gj hb,hz,Gq,G9.mpr h1,hs]
 simp only[Gn,cond_true,hh]
 rfl
theorem Cg (E:pe f sz){b l cs}(hb:h[b]?=I (.cells cs))(hc:cs.length=(l.getD []).length*sz)(dQ:za h0 al b=Gd):
  wW h0 al sz h (I (.ms b 0 (l.getD []).length)) (I (sl sz f l))=I ⟨Lv l,En,Gh,h.set b (.cells (bM f (l.getD [])))⟩:=by
 have lm:ju h b=I cs:=by rw[q7g,hb];rfl
 have bw:=(Gb.1 hb).1
 have cX:Ag sz (l.getD []).length (sl sz f l)=I ((l.getD []).length,j9 f (l.getD [])):=by
  cases l with
  |none=>simp[sl,Ag,j9]
  |some l=>
   show(bif Gt sz sz||(l.map f).isEmpty then I (min (l.map f).length l.length,((l.map f).take l.length).flatMap AVal.flat)else Gh)=_
   rw[Gq,Gr,Nat.min_self,Gz (by rw[Gr];exact Nat.le_refl _)]
   rfl
 have KK:(j9 f (l.getD [])).length=(l.getD []).length*sz:=G6 E.len _
 have cq:jr cs 0 (j9 f (l.getD []))=I (bM f (l.getD [])):=by
  unfold jr
  rw[jls E,KK,hc,Gj (by omega)]
  simp only[Gn,cond_true,Hb,G7]
  rw[Gs (by rw[hc];omega),Ha]
  rfl
 have bF:jt h b (.cells (bM f (l.getD [])))=I (h.set b (.cells (bM f (l.getD [])))):=by
  simp only[jt,G9.mpr bw,cond_true]
 show(bif za h0 al b then(match ju h b with
   |some cs=>(match Ag sz (l.getD []).length (sl sz f l)with
    |some (n,vs)=>(match jr cs 0 vs with
     |some eN=>bif Gt vs.length (n*sz)then(match jt h b (.cells eN)with
      |some h'=>val h' (Iv n)
      |none=>Gh)else Gh
     |none=>Gh)
    |none=>Gh)
   |none=>Gh)else Gh)=_
 rw[dQ,lm,cX]
 simp only[cond_true,cq,KK,Gq,bF]
 rfl
theorem vS {b n i k}(hi:i<n):iU sz h (I (.ms b 0 n)) (I (.int k (i:Int)))=I ⟨.ptr b (i*sz),En,Gh,h⟩:=by
 have:idx n (.int k (i:Int))=I i:=by rw[yQ];exact SH hi
 simp only[iU,this,Nat.zero_add]
 rfl
end
end Go.Z
set_option maxHeartbeats 4000000
namespace Go.Z
open Go Go.Abs Go.W
theorem gy:pe jd 5:=⟨fun _=>rfl,fun _=>rfl,fun _=>rfl,fun _=>rfl,by omega⟩
theorem pf:pe bp 2:=⟨fun _=>rfl,fun _=>rfl,fun _=>rfl,fun _=>rfl,by omega⟩
theorem su:pe jb 3:=⟨fun _=>rfl,fun _=>rfl,fun _=>rfl,fun _=>rfl,by omega⟩
theorem cK:pe qu 4:=⟨fun _=>rfl,fun _=>by simp only[go_sem,seval,jco]<;>simp only[G8,go_sem],fun _=>rfl,fun _=>rfl,by omega⟩
theorem ez:pe bD 8:=⟨fun _=>rfl,fun _=>by simp only[go_sem,seval,jke]<;>simp only[G8,go_sem],fun _=>rfl,fun _=>rfl,by omega⟩
theorem zc6 {j caps l i cs}(hlen:(l.getD []).length≤1073741824)(hi:i<(l.getD []).length)(dY:qo pr (X pr) j (.ptr 0 (i*4)::caps) [.cells (bM qu (l.getD []))]=I (.aJ [],En,[.cells cs])):qo pr (X pr) 221 [sl 4 qu l,Iv (i:Int),.fn (.func j) [] caps] []=I (.ms 0 0 ((l.getD []).length),En,[.cells cs]):=by
 rw[ql (show pr.bO 221=I sw from rfl) (by simp)]
 have pg:vN 0 0 4 88 [(.str []),(Nl),(Nl),(Nl)] [.hole] (I (Lv l)) (I (Lv l))=I ⟨.ms 0 0 (l.getD []).length,En,Gh,[.cells (cellsOf (Ge (l.getD []).length [(.str []),(Nl),(Nl),(Nl)]).flatten)]⟩:=by apply Cf<;>first|exact hlen|rfl|decide
 have ph:wW 1 Gh 4 [.cells (cellsOf (Ge (l.getD []).length [(.str []),(Nl),(Nl),(Nl)]).flatten)] (I (.ms 0 0 (l.getD []).length)) (I (sl 4 qu l))=I ⟨Lv l,En,Gh,[.cells (bM qu (l.getD []))]⟩:=Cg cK rfl (by simp[cellsOf]) rfl
 simp only[go_sem,seval,sw,pg,ph,vS hi,dY]<;>rfl
theorem j6q{y:aC} {j:Nat} {caps:List AVal} {l:Option (List aC)} {i:Nat} {cs:List (AVal×Bool)} (hlen:(l.getD []).length≤1073741824) (hi:i<(l.getD []).length) (dY:qo pr (X pr) j (.ptr 0 (i*4)::caps) [.cells (bM qu (l.getD []))]=I (.aJ [],En,[.cells cs])) (hcs:cs.map (·.1)=j9 qu ((l.getD []).set i y)):qc pr (X pr) 221 [sl 4 qu l,Iv (i:Int),.fn (.func j) [] caps]=I (sl 4 qu (I ((l.getD []).set i y)),En):=by
 have hl:((l.getD []).set i y).length=(l.getD []).length:=Gi
 have hz:aK [.cells cs] (.ms 0 0 ((l.getD []).length))=I (sl 4 qu (I ((l.getD []).set i y))):=by
  rw[EC,←hl]
  exact vR cK (by rw[hl];omega) hcs
 exact zo rfl (zc6 hlen hi dY) hz (by first|rfl|simp only[go_sem,seval])
theorem zjg {j caps l i cs}(hlen:(l.getD []).length≤1073741824)(hi:i<(l.getD []).length)(dY:qo pr (X pr) j (.ptr 0 (i*5)::caps) [.cells (bM jd (l.getD []))]=I (.aJ [],En,[.cells cs])):qo pr (X pr) 227 [sl 5 jd l,Iv (i:Int),.fn (.func j) [] caps] []=I (.ms 0 0 ((l.getD []).length),En,[.cells cs]):=by
 rw[ql (show pr.bO 227=I sx from rfl) (by simp)]
 have pg:vN 0 0 5 56 [(.str []),(.str []),(Iv 0),(Iv 0),(.bool En)] [.hole] (I (Lv l)) (I (Lv l))=I ⟨.ms 0 0 (l.getD []).length,En,Gh,[.cells (cellsOf (Ge (l.getD []).length [(.str []),(.str []),(Iv 0),(Iv 0),(.bool En)]).flatten)]⟩:=by apply Cf<;>first|exact hlen|rfl|decide
 have ph:wW 1 Gh 5 [.cells (cellsOf (Ge (l.getD []).length [(.str []),(.str []),(Iv 0),(Iv 0),(.bool En)]).flatten)] (I (.ms 0 0 (l.getD []).length)) (I (sl 5 jd l))=I ⟨Lv l,En,Gh,[.cells (bM jd (l.getD []))]⟩:=Cg gy rfl (by simp[cellsOf]) rfl
 simp only[go_sem,seval,sx,pg,ph,vS hi,dY]<;>rfl
theorem j81{y:je} {j:Nat} {caps:List AVal} {l:Option (List je)} {i:Nat} {cs:List (AVal×Bool)} (hlen:(l.getD []).length≤1073741824) (hi:i<(l.getD []).length) (dY:qo pr (X pr) j (.ptr 0 (i*5)::caps) [.cells (bM jd (l.getD []))]=I (.aJ [],En,[.cells cs])) (hcs:cs.map (·.1)=j9 jd ((l.getD []).set i y)):qc pr (X pr) 227 [sl 5 jd l,Iv (i:Int),.fn (.func j) [] caps]=I (sl 5 jd (I ((l.getD []).set i y)),En):=by
 have hl:((l.getD []).set i y).length=(l.getD []).length:=Gi
 have hz:aK [.cells cs] (.ms 0 0 ((l.getD []).length))=I (sl 5 jd (I ((l.getD []).set i y))):=by
  rw[EC,←hl]
  exact vR gy (by rw[hl];omega) hcs
 exact zo rfl (zjg hlen hi dY) hz (by first|rfl|simp only[go_sem,seval])
theorem zim {j caps l i cs}(hlen:(l.getD []).length≤1073741824)(hi:i<(l.getD []).length)(dY:qo pr (X pr) j (.ptr 0 (i*8)::caps) [.cells (bM bD (l.getD []))]=I (.aJ [],En,[.cells cs])):qo pr (X pr) 231 [sl 8 bD l,Iv (i:Int),.fn (.func j) [] caps] []=I (.ms 0 0 ((l.getD []).length),En,[.cells cs]):=by
 rw[ql (show pr.bO 231=I nC from rfl) (by simp)]
 have pg:vN 0 0 8 120 [(.str []),(.str []),(Iv 0),(Nl),(Nl),(.str []),(.bool En),(Iv 0)] [.hole] (I (Lv l)) (I (Lv l))=I ⟨.ms 0 0 (l.getD []).length,En,Gh,[.cells (cellsOf (Ge (l.getD []).length [(.str []),(.str []),(Iv 0),(Nl),(Nl),(.str []),(.bool En),(Iv 0)]).flatten)]⟩:=by apply Cf<;>first|exact hlen|rfl|decide
 have ph:wW 1 Gh 8 [.cells (cellsOf (Ge (l.getD []).length [(.str []),(.str []),(Iv 0),(Nl),(Nl),(.str []),(.bool En),(Iv 0)]).flatten)] (I (.ms 0 0 (l.getD []).length)) (I (sl 8 bD l))=I ⟨Lv l,En,Gh,[.cells (bM bD (l.getD []))]⟩:=Cg ez rfl (by simp[cellsOf]) rfl
 simp only[go_sem,seval,nC,pg,ph,vS hi,dY]<;>rfl
theorem j31{y:bg} {j:Nat} {caps:List AVal} {l:Option (List bg)} {i:Nat} {cs:List (AVal×Bool)} (hlen:(l.getD []).length≤1073741824) (hi:i<(l.getD []).length) (dY:qo pr (X pr) j (.ptr 0 (i*8)::caps) [.cells (bM bD (l.getD []))]=I (.aJ [],En,[.cells cs])) (hcs:cs.map (·.1)=j9 bD ((l.getD []).set i y)):qc pr (X pr) 231 [sl 8 bD l,Iv (i:Int),.fn (.func j) [] caps]=I (sl 8 bD (I ((l.getD []).set i y)),En):=by
 have hl:((l.getD []).set i y).length=(l.getD []).length:=Gi
 have hz:aK [.cells cs] (.ms 0 0 ((l.getD []).length))=I (sl 8 bD (I ((l.getD []).set i y))):=by
  rw[EC,←hl]
  exact vR ez (by rw[hl];omega) hcs
 exact zo rfl (zim hlen hi dY) hz (by first|rfl|simp only[go_sem,seval])
theorem jml {b0 b1 b2 di dW j caps l i cs}(hlen:(l.getD []).length≤1073741824)(hi:i<(l.getD []).length)(dY:qo pr (X pr) j (.ptr 5 (i*8)::caps) [b0,b1,b2,di,dW,.cells (bM bD (l.getD []))]=I (.aJ [],En,[b0,b1,b2,di,dW,.cells cs])):qo pr (X pr) 231 [sl 8 bD l,Iv (i:Int),.fn (.func j) [] caps] [b0,b1,b2,di,dW]=I (.ms 5 0 ((l.getD []).length),En,[b0,b1,b2,di,dW,.cells cs]):=by
 rw[ql (show pr.bO 231=I nC from rfl) (by simp)]
 have pg:vN 5 0 8 120 [(.str []),(.str []),(Iv 0),(Nl),(Nl),(.str []),(.bool En),(Iv 0)] [b0,b1,b2,di,dW,.hole] (I (Lv l)) (I (Lv l))=I ⟨.ms 5 0 (l.getD []).length,En,Gh,[b0,b1,b2,di,dW,.cells (cellsOf (Ge (l.getD []).length [(.str []),(.str []),(Iv 0),(Nl),(Nl),(.str []),(.bool En),(Iv 0)]).flatten)]⟩:=by apply Cf<;>first|exact hlen|rfl|decide
 have ph:wW 6 Gh 8 [b0,b1,b2,di,dW,.cells (cellsOf (Ge (l.getD []).length [(.str []),(.str []),(Iv 0),(Nl),(Nl),(.str []),(.bool En),(Iv 0)]).flatten)] (I (.ms 5 0 (l.getD []).length)) (I (sl 8 bD l))=I ⟨Lv l,En,Gh,[b0,b1,b2,di,dW,.cells (bM bD (l.getD []))]⟩:=Cg ez rfl (by simp[cellsOf]) rfl
 simp only[go_sem,seval,nC,pg,ph,vS hi,dY]<;>rfl
theorem zca {j caps l i cs}(hlen:(l.getD []).length≤1073741824)(hi:i<(l.getD []).length)(dY:qo pr (X pr) j (.ptr 0 (i*2)::caps) [.cells (bM bp (l.getD []))]=I (.aJ [],En,[.cells cs])):qo pr (X pr) 271 [sl 2 bp l,Iv (i:Int),.fn (.func j) [] caps] []=I (.ms 0 0 ((l.getD []).length),En,[.cells cs]):=by
 rw[ql (show pr.bO 271=I sA from rfl) (by simp)]
 have pg:vN 0 0 2 24 [(.str []),(Iv 0)] [.hole] (I (Lv l)) (I (Lv l))=I ⟨.ms 0 0 (l.getD []).length,En,Gh,[.cells (cellsOf (Ge (l.getD []).length [(.str []),(Iv 0)]).flatten)]⟩:=by apply Cf<;>first|exact hlen|rfl|decide
 have ph:wW 1 Gh 2 [.cells (cellsOf (Ge (l.getD []).length [(.str []),(Iv 0)]).flatten)] (I (.ms 0 0 (l.getD []).length)) (I (sl 2 bp l))=I ⟨Lv l,En,Gh,[.cells (bM bp (l.getD []))]⟩:=Cg pf rfl (by simp[cellsOf]) rfl
 simp only[go_sem,seval,sA,pg,ph,vS hi,dY]<;>rfl
theorem j5y{y:bn} {j:Nat} {caps:List AVal} {l:Option (List bn)} {i:Nat} {cs:List (AVal×Bool)} (hlen:(l.getD []).length≤1073741824) (hi:i<(l.getD []).length) (dY:qo pr (X pr) j (.ptr 0 (i*2)::caps) [.cells (bM bp (l.getD []))]=I (.aJ [],En,[.cells cs])) (hcs:cs.map (·.1)=j9 bp ((l.getD []).set i y)):qc pr (X pr) 271 [sl 2 bp l,Iv (i:Int),.fn (.func j) [] caps]=I (sl 2 bp (I ((l.getD []).set i y)),En):=by
 have hl:((l.getD []).set i y).length=(l.getD []).length:=Gi
 have hz:aK [.cells cs] (.ms 0 0 ((l.getD []).length))=I (sl 2 bp (I ((l.getD []).set i y))):=by
  rw[EC,←hl]
  exact vR pf (by rw[hl];omega) hcs
 exact zo rfl (zca hlen hi dY) hz (by first|rfl|simp only[go_sem,seval])
theorem zjb {j caps l i cs}(hlen:(l.getD []).length≤1073741824)(hi:i<(l.getD []).length)(dY:qo pr (X pr) j (.ptr 0 (i*3)::caps) [.cells (bM jb (l.getD []))]=I (.aJ [],En,[.cells cs])):qo pr (X pr) 275 [sl 3 jb l,Iv (i:Int),.fn (.func j) [] caps] []=I (.ms 0 0 ((l.getD []).length),En,[.cells cs]):=by
 rw[ql (show pr.bO 275=I sB from rfl) (by simp)]
 have pg:vN 0 0 3 32 [(.str []),(Iv 0),(Iv 0)] [.hole] (I (Lv l)) (I (Lv l))=I ⟨.ms 0 0 (l.getD []).length,En,Gh,[.cells (cellsOf (Ge (l.getD []).length [(.str []),(Iv 0),(Iv 0)]).flatten)]⟩:=by apply Cf<;>first|exact hlen|rfl|decide
 have ph:wW 1 Gh 3 [.cells (cellsOf (Ge (l.getD []).length [(.str []),(Iv 0),(Iv 0)]).flatten)] (I (.ms 0 0 (l.getD []).length)) (I (sl 3 jb l))=I ⟨Lv l,En,Gh,[.cells (bM jb (l.getD []))]⟩:=Cg su rfl (by simp[cellsOf]) rfl
 simp only[go_sem,seval,sB,pg,ph,vS hi,dY]<;>rfl
theorem j4e{y:jc} {j:Nat} {caps:List AVal} {l:Option (List jc)} {i:Nat} {cs:List (AVal×Bool)} (hlen:(l.getD []).length≤1073741824) (hi:i<(l.getD []).length) (dY:qo pr (X pr) j (.ptr 0 (i*3)::caps) [.cells (bM jb (l.getD []))]=I (.aJ [],En,[.cells cs])) (hcs:cs.map (·.1)=j9 jb ((l.getD []).set i y)):qc pr (X pr) 275 [sl 3 jb l,Iv (i:Int),.fn (.func j) [] caps]=I (sl 3 jb (I ((l.getD []).set i y)),En):=by
 have hl:((l.getD []).set i y).length=(l.getD []).length:=Gi
 have hz:aK [.cells cs] (.ms 0 0 ((l.getD []).length))=I (sl 3 jb (I ((l.getD []).set i y))):=by
  rw[EC,←hl]
  exact vR su (by rw[hl];omega) hcs
 exact zo rfl (zjb hlen hi dY) hz (by first|rfl|simp only[go_sem,seval])
theorem zg2 {j caps l i cs}(hlen:(l.getD []).length≤1073741824)(hi:i<(l.getD []).length)(dY:qo pr (X pr) j (.ptr 0 (i*2)::caps) [.cells (bM bp (l.getD []))]=I (.aJ [],En,[.cells cs])):qo pr (X pr) 282 [sl 2 bp l,Iv (i:Int),.fn (.func j) [] caps] []=I (.ms 0 0 ((l.getD []).length),En,[.cells cs]):=by
 rw[ql (show pr.bO 282=I sC from rfl) (by simp)]
 have pg:vN 0 0 2 24 [(.str []),(Iv 0)] [.hole] (I (Lv l)) (I (Lv l))=I ⟨.ms 0 0 (l.getD []).length,En,Gh,[.cells (cellsOf (Ge (l.getD []).length [(.str []),(Iv 0)]).flatten)]⟩:=by apply Cf<;>first|exact hlen|rfl|decide
 have ph:wW 1 Gh 2 [.cells (cellsOf (Ge (l.getD []).length [(.str []),(Iv 0)]).flatten)] (I (.ms 0 0 (l.getD []).length)) (I (sl 2 bp l))=I ⟨Lv l,En,Gh,[.cells (bM bp (l.getD []))]⟩:=Cg pf rfl (by simp[cellsOf]) rfl
 simp only[go_sem,seval,sC,pg,ph,vS hi,dY]<;>rfl
theorem j5k{y:bn} {j:Nat} {caps:List AVal} {l:Option (List bn)} {i:Nat} {cs:List (AVal×Bool)} (hlen:(l.getD []).length≤1073741824) (hi:i<(l.getD []).length) (dY:qo pr (X pr) j (.ptr 0 (i*2)::caps) [.cells (bM bp (l.getD []))]=I (.aJ [],En,[.cells cs])) (hcs:cs.map (·.1)=j9 bp ((l.getD []).set i y)):qc pr (X pr) 282 [sl 2 bp l,Iv (i:Int),.fn (.func j) [] caps]=I (sl 2 bp (I ((l.getD []).set i y)),En):=by
 have hl:((l.getD []).set i y).length=(l.getD []).length:=Gi
 have hz:aK [.cells cs] (.ms 0 0 ((l.getD []).length))=I (sl 2 bp (I ((l.getD []).set i y))):=by
  rw[EC,←hl]
  exact vR pf (by rw[hl];omega) hcs
 exact zo rfl (zg2 hlen hi dY) hz (by first|rfl|simp only[go_sem,seval])
end Go.Z
namespace Go.Z
open Go Go.Abs Go.W
def gv {α:Type}(l:Option (List α))(i:Int)(g:α→Option α):Option (Option (List α)):=
 if(l.getD []).length≤1073741824∧0≤i then(match(l.getD [])[i.toNat]? with
  |some x=>(match g x with
   |some y=>I (I ((l.getD []).set i.toNat y))
   |none=>Gh)
  |none=>Gh)else Gh
theorem zW {α:Type}{l i g r}(h:gv l i g=I r):∃(n:Nat) (x y:α),i=(n:Int)∧(l.getD []).length≤1073741824∧(l.getD [])[n]?=I x∧g x=I y∧r=I ((l.getD []).set n y):=by
 unfold gv at h
 split at h
 ·rename_i hc
  split at h
  ·rename_i x hx
   split at h
   ·rename_i y hy
    cases h
    exact⟨i.toNat,x,y,(Int.toNat_of_nonneg hc.2).symm,hc.1,hx,hy,rfl⟩
   ·cases h
  ·cases h
 ·cases h
theorem XZ {l r i g j caps}(dY:∀(n:Nat) (x y:aC),(l.getD [])[n]?=I x→g x=I y→∃cs,qo pr (X pr) j (.ptr 0 (n*4)::caps) [.cells (bM qu (l.getD []))]=I (.aJ [],En,[.cells cs])∧cs.map (·.1)=j9 qu ((l.getD []).set n y))(h:gv l i g=I r):qc pr (X pr) 221 [sl 4 qu l,Iv i,.fn (.func j) [] caps]=I (sl 4 qu r,En):=by
 obtain⟨n,x,y,rfl,hl,hx,hy,rfl⟩:=zW h
 obtain⟨cs,h1,h2⟩:=dY n x y hx hy
 exact j6q hl (Gb.1 hx).1 h1 h2
theorem X0 {l r i g j caps}(dY:∀(n:Nat) (x y:je),(l.getD [])[n]?=I x→g x=I y→∃cs,qo pr (X pr) j (.ptr 0 (n*5)::caps) [.cells (bM jd (l.getD []))]=I (.aJ [],En,[.cells cs])∧cs.map (·.1)=j9 jd ((l.getD []).set n y))(h:gv l i g=I r):qc pr (X pr) 227 [sl 5 jd l,Iv i,.fn (.func j) [] caps]=I (sl 5 jd r,En):=by
 obtain⟨n,x,y,rfl,hl,hx,hy,rfl⟩:=zW h
 obtain⟨cs,h1,h2⟩:=dY n x y hx hy
 exact j81 hl (Gb.1 hx).1 h1 h2
theorem E0 {l r i g j caps}(dY:∀(n:Nat) (x y:bg),(l.getD [])[n]?=I x→g x=I y→∃cs,qo pr (X pr) j (.ptr 0 (n*8)::caps) [.cells (bM bD (l.getD []))]=I (.aJ [],En,[.cells cs])∧cs.map (·.1)=j9 bD ((l.getD []).set n y))(h:gv l i g=I r):qc pr (X pr) 231 [sl 8 bD l,Iv i,.fn (.func j) [] caps]=I (sl 8 bD r,En):=by
 obtain⟨n,x,y,rfl,hl,hx,hy,rfl⟩:=zW h
 obtain⟨cs,h1,h2⟩:=dY n x y hx hy
 exact j31 hl (Gb.1 hx).1 h1 h2
theorem j5c {l r i g j caps}(dY:∀(n:Nat) (x y:bn),(l.getD [])[n]?=I x→g x=I y→∃cs,qo pr (X pr) j (.ptr 0 (n*2)::caps) [.cells (bM bp (l.getD []))]=I (.aJ [],En,[.cells cs])∧cs.map (·.1)=j9 bp ((l.getD []).set n y))(h:gv l i g=I r):qc pr (X pr) 271 [sl 2 bp l,Iv i,.fn (.func j) [] caps]=I (sl 2 bp r,En):=by
 obtain⟨n,x,y,rfl,hl,hx,hy,rfl⟩:=zW h
 obtain⟨cs,h1,h2⟩:=dY n x y hx hy
 exact j5y hl (Gb.1 hx).1 h1 h2
theorem j54 {l r i g j caps}(dY:∀(n:Nat) (x y:jc),(l.getD [])[n]?=I x→g x=I y→∃cs,qo pr (X pr) j (.ptr 0 (n*3)::caps) [.cells (bM jb (l.getD []))]=I (.aJ [],En,[.cells cs])∧cs.map (·.1)=j9 jb ((l.getD []).set n y))(h:gv l i g=I r):qc pr (X pr) 275 [sl 3 jb l,Iv i,.fn (.func j) [] caps]=I (sl 3 jb r,En):=by
 obtain⟨n,x,y,rfl,hl,hx,hy,rfl⟩:=zW h
 obtain⟨cs,h1,h2⟩:=dY n x y hx hy
 exact j4e hl (Gb.1 hx).1 h1 h2
theorem j1h {l r i g j caps}(dY:∀(n:Nat) (x y:bn),(l.getD [])[n]?=I x→g x=I y→∃cs,qo pr (X pr) j (.ptr 0 (n*2)::caps) [.cells (bM bp (l.getD []))]=I (.aJ [],En,[.cells cs])∧cs.map (·.1)=j9 bp ((l.getD []).set n y))(h:gv l i g=I r):qc pr (X pr) 282 [sl 2 bp l,Iv i,.fn (.func j) [] caps]=I (sl 2 bp r,En):=by
 obtain⟨n,x,y,rfl,hl,hx,hy,rfl⟩:=zW h
 obtain⟨cs,h1,h2⟩:=dY n x y hx hy
 exact j5k hl (Gb.1 hx).1 h1 h2
theorem zhw {l i x}(hx:l[i]?=I x):qo pr (X pr) 240 [.ptr 0 (i*5)] [.cells (bM jd l)]=I (.aJ [],En,[.cells (bM jd (l.set i { x with held:=Gd }))]):=by
 rw[ql (show pr.bO 240=I sD from rfl) (by simp)]
 have st:jr (bM jd l) (i*5+4) [.bool Gd]=I (bM jd (l.set i { x with held:=Gd })):=mE (o:=4) gy.len hx (Ga rfl) rfl rfl
 simp only[go_sem,seval,sD,st]<;>rfl
def TR (l:Option (List je))(i:Int):Option (Option (List je)):=gv l i fun x=>I { x with held:=Gd }
theorem jje {l i r}(h:TR l i=I r):qc pr (X pr) 227 [sl 5 jd l,Iv i,.fn (.func 240) [] []]=I (sl 5 jd r,En):=
 X0 (fun n x y hx hy=>by cases hy;exact⟨_,zhw hx,z8⟩) h
theorem zhi {l i x}(hx:l[i]?=I x):qo pr (X pr) 241 [.ptr 0 (i*5)] [.cells (bM jd l)]=I (.aJ [],En,[.cells (bM jd (l.set i { x with held:=En }))]):=by
 rw[ql (show pr.bO 241=I sE from rfl) (by simp)]
 have st:jr (bM jd l) (i*5+4) [.bool En]=I (bM jd (l.set i { x with held:=En })):=mE (o:=4) gy.len hx (Ga rfl) rfl rfl
 simp only[go_sem,seval,sE,st]<;>rfl
def TS (l:Option (List je))(i:Int):Option (Option (List je)):=gv l i fun x=>I { x with held:=En }
theorem jkm {l i r}(h:TS l i=I r):qc pr (X pr) 227 [sl 5 jd l,Iv i,.fn (.func 241) [] []]=I (sl 5 jd r,En):=
 X0 (fun n x y hx hy=>by cases hy;exact⟨_,zhi hx,z8⟩) h
theorem zda {l i x}(hx:l[i]?=I x):qo pr (X pr) 242 [.ptr 0 (i*8)] [.cells (bM bD l)]=I (.aJ [],En,[.cells (bM bD (l.set i { x with ar:=Gd }))]):=by
 rw[ql (show pr.bO 242=I sF from rfl) (by simp)]
 have st:jr (bM bD l) (i*8+6) [.bool Gd]=I (bM bD (l.set i { x with ar:=Gd })):=mE (o:=6) ez.len hx (Ga rfl) rfl rfl
 simp only[go_sem,seval,sF,st]<;>rfl
def TV (l:Option (List bg))(i:Int):Option (Option (List bg)):=gv l i fun x=>I { x with ar:=Gd }
theorem jir {l i r}(h:TV l i=I r):qc pr (X pr) 231 [sl 8 bD l,Iv i,.fn (.func 242) [] []]=I (sl 8 bD r,En):=
 E0 (fun n x y hx hy=>by cases hy;exact⟨_,zda hx,z8⟩) h
theorem zbw {l i x}(hx:l[i]?=I x):qo pr (X pr) 243 [.ptr 0 (i*8)] [.cells (bM bD l)]=I (.aJ [],En,[.cells (bM bD (l.set i { x with ah:=qe .i64 (x.ah+1) }))]):=by
 rw[ql (show pr.bO 243=I sG from rfl) (by simp)]
 have st:jr (bM bD l) (i*8+7) [Iv (qe .i64 (x.ah+1))]=I (bM bD (l.set i { x with ah:=qe .i64 (x.ah+1) })):=mE (o:=7) ez.len hx (Ga rfl) rfl rfl
 have X2:zi (bM bD l) (i*8+7) 1=I [Iv x.ah]:=vz (o:=7) ez.len hx (by decide)
 simp only[go_sem,seval,sG,st,X2]<;>rfl
def TW (l:Option (List bg))(i:Int):Option (Option (List bg)):=gv l i fun x=>I { x with ah:=qe .i64 (x.ah+1) }
theorem jj3 {l i r}(h:TW l i=I r):qc pr (X pr) 231 [sl 8 bD l,Iv i,.fn (.func 243) [] []]=I (sl 8 bD r,En):=
 E0 (fun n x y hx hy=>by cases hy;exact⟨_,zbw hx,z8⟩) h
theorem ze8 {l i x v}(hx:l[i]?=I x):qo pr (X pr) 237 [.ptr 0 (i*8),.ai (Iv v)] [.cells (bM bD l)]=I (.aJ [],En,[.cells (bM bD (l.set i { x with version:=v }))]):=by
 rw[ql (show pr.bO 237=I sH from rfl) (by simp)]
 have st:jr (bM bD l) (i*8+2) [Iv v]=I (bM bD (l.set i { x with version:=v })):=mE (o:=2) ez.len hx (Ga rfl) rfl rfl
 simp only[go_sem,seval,sH,st]<;>rfl
def TU (l:Option (List bg))(i:Int)(v:Int):Option (Option (List bg)):=gv l i fun x=>I { x with version:=v }
theorem jjd {l i v r}(h:TU l i v=I r):qc pr (X pr) 231 [sl 8 bD l,Iv i,.fn (.func 237) [] [.ai (Iv v)]]=I (sl 8 bD r,En):=
 E0 (fun n x y hx hy=>by cases hy;exact⟨_,ze8 hx,z8⟩) h
theorem ze4 {l i x b}(hx:l[i]?=I x):qo pr (X pr) 238 [.ptr 0 (i*8),.ai (bD b)] [.cells (bM bD l)]=I (.aJ [],En,[.cells (bM bD (l.set i { x with partner:=b.name }))]):=by
 rw[ql (show pr.bO 238=I sI from rfl) (by simp)]
 have st:jr (bM bD l) (i*8+5) [.str b.name]=I (bM bD (l.set i { x with partner:=b.name })):=mE (o:=5) ez.len hx (Ga rfl) rfl rfl
 simp only[go_sem,seval,sI,st,bD]<;>rfl
def vF (l:Option (List bg))(i:Int)(b:bg):Option (Option (List bg)):=gv l i fun x=>I { x with partner:=b.name }
theorem jj4 {l i b r}(h:vF l i b=I r):qc pr (X pr) 231 [sl 8 bD l,Iv i,.fn (.func 238) [] [.ai (bD b)]]=I (sl 8 bD r,En):=
 E0 (fun n x y hx hy=>by cases hy;exact⟨_,ze4 hx,z8⟩) h
theorem zd0 {l i x b}(hx:l[i]?=I x):qo pr (X pr) 239 [.ptr 0 (i*8),.ai (bD b)] [.cells (bM bD l)]=I (.aJ [],En,[.cells (bM bD (l.set i { x with partner:=b.name }))]):=by
 rw[ql (show pr.bO 239=I sJ from rfl) (by simp)]
 have st:jr (bM bD l) (i*8+5) [.str b.name]=I (bM bD (l.set i { x with partner:=b.name })):=mE (o:=5) ez.len hx (Ga rfl) rfl rfl
 simp only[go_sem,seval,sJ,st,bD]<;>rfl
def vG (l:Option (List bg))(i:Int)(b:bg):Option (Option (List bg)):=gv l i fun x=>I { x with partner:=b.name }
theorem jkk {l i b r}(h:vG l i b=I r):qc pr (X pr) 231 [sl 8 bD l,Iv i,.fn (.func 239) [] [.ai (bD b)]]=I (sl 8 bD r,En):=
 E0 (fun n x y hx hy=>by cases hy;exact⟨_,zd0 hx,z8⟩) h
theorem zir {l i x v}(hx:l[i]?=I x):qo pr (X pr) 228 [.ptr 0 (i*5),.ai (Iv v)] [.cells (bM jd l)]=I (.aJ [],En,[.cells (bM jd (l.set i { x with left:=qe .i64 (x.left-v) }))]):=by
 rw[ql (show pr.bO 228=I sK from rfl) (by simp)]
 have st:jr (bM jd l) (i*5+3) [Iv (qe .i64 (x.left-v))]=I (bM jd (l.set i { x with left:=qe .i64 (x.left-v) })):=mE (o:=3) gy.len hx (Ga rfl) rfl rfl
 have X2:zi (bM jd l) (i*5+3) 1=I [Iv x.left]:=vz (o:=3) gy.len hx (by decide)
 simp only[go_sem,seval,sK,st,X2]<;>rfl
def TY (l:Option (List je))(i:Int)(v:Int):Option (Option (List je)):=gv l i fun x=>I { x with left:=qe .i64 (x.left-v) }
theorem jli {l i v r}(h:TY l i v=I r):qc pr (X pr) 227 [sl 5 jd l,Iv i,.fn (.func 228) [] [.ai (Iv v)]]=I (sl 5 jd r,En):=
 X0 (fun n x y hx hy=>by cases hy;exact⟨_,zir hx,z8⟩) h
theorem zia {l i x b}(hx:l[i]?=I x):qo pr (X pr) 272 [.ptr 0 (i*2),.ai (bp b)] [.cells (bM bp l)]=I (.aJ [],En,[.cells (bM bp (l.set i b))]):=by
 rw[ql (show pr.bO 272=I sL from rfl) (by simp)]
 have st:jr (bM bp l) (i*2) [.str b.k,Iv b.n]=I (bM bp (l.set i b)):=mE (o:=0) pf.len hx (Ga rfl) rfl rfl
 simp only[go_sem,seval,sL,st,bp]<;>rfl
def jx6 (l:Option (List bn))(i:Int)(b:bn):Option (Option (List bn)):=gv l i fun x=>I b
theorem jgf {l i b r}(h:jx6 l i b=I r):qc pr (X pr) 271 [sl 2 bp l,Iv i,.fn (.func 272) [] [.ai (bp b)]]=I (sl 2 bp r,En):=
 j5c (fun n x y hx hy=>by cases hy;exact⟨_,zia hx,z8⟩) h
theorem ze9 {l i x b}(hx:l[i]?=I x):qo pr (X pr) 276 [.ptr 0 (i*3),.ai (jb b)] [.cells (bM jb l)]=I (.aJ [],En,[.cells (bM jb (l.set i b))]):=by
 rw[ql (show pr.bO 276=I sM from rfl) (by simp)]
 have st:jr (bM jb l) (i*3) [.str b.k,Iv b.a,Iv b.b]=I (bM jb (l.set i b)):=mE (o:=0) su.len hx (Ga rfl) rfl rfl
 simp only[go_sem,seval,sM,st,jb]<;>rfl
def jtc (l:Option (List jc))(i:Int)(b:jc):Option (Option (List jc)):=gv l i fun x=>I b
theorem jih {l i b r}(h:jtc l i b=I r):qc pr (X pr) 275 [sl 3 jb l,Iv i,.fn (.func 276) [] [.ai (jb b)]]=I (sl 3 jb r,En):=
 j54 (fun n x y hx hy=>by cases hy;exact⟨_,ze9 hx,z8⟩) h
theorem zhe {l i x b}(hx:l[i]?=I x):qo pr (X pr) 283 [.ptr 0 (i*2),.ai (bp b)] [.cells (bM bp l)]=I (.aJ [],En,[.cells (bM bp (l.set i b))]):=by
 rw[ql (show pr.bO 283=I sN from rfl) (by simp)]
 have st:jr (bM bp l) (i*2) [.str b.k,Iv b.n]=I (bM bp (l.set i b)):=mE (o:=0) pf.len hx (Ga rfl) rfl rfl
 simp only[go_sem,seval,sN,st,bp]<;>rfl
def jro (l:Option (List bn))(i:Int)(b:bn):Option (Option (List bn)):=gv l i fun x=>I b
theorem ji1 {l i b r}(h:jro l i b=I r):qc pr (X pr) 282 [sl 2 bp l,Iv i,.fn (.func 283) [] [.ai (bp b)]]=I (sl 2 bp r,En):=
 j1h (fun n x y hx hy=>by cases hy;exact⟨_,zhe hx,z8⟩) h
end Go.Z
namespace Go.Z
open Go Go.Abs Go.W
def Ji (a0:bn)(a1:List UInt8):Option Bool:=
 I (decide (a0.k=a1))
theorem X3 (hp:qi){a0 a1 r}(h:Ji a0 a1=I r):qo pr (X pr) 211 [aN a0,.ai (.str a1)] hp=I (.bool r,En,hp):=by
 unfold Ji at h
 have hr:decide (a0.k=a1)=r:=I.inj h
 subst hr
 rw[ql (show pr.bO 211=I sO from rfl) (by simp)]
 simp only[go_sem,seval,sO]<;>rfl
def M1 (a0:Option (List bn))(av:List UInt8)(s0:Int):Option (Int⊕(Int⊕Int)):=
 cond (decide (s0<((a0.getD []).length:Int)))
  (qa (qr (a0.getD []) s0) fun eu=>
  qa (Ji eu av) fun ea=>
  cond ea
   (I (.inr (.inl s0)))
   (I (.inl (qe .i64 (s0+1)))))
  (I (.inr (.inr s0)))
def M2 (a0:Option (List bn))(av:List UInt8)(hp:qi)(s0:Int):aY:=⟨[(0,sl 2 bp a0,En),(1,.fn (.func 211) [] [.ai (.str av)],En),(7,Lv a0,En),(8,Iv s0,En)],hp⟩
def M3 (a0:Option (List bn))(av:List UInt8)(hp:qi):Int⊕Int→jf×aY
 | .inl d=>(.ret,⟨[(4,Iv d,En)],hp⟩)
 | .inr d=>(.exit 0,⟨[(0,sl 2 bp a0,En),(1,.fn (.func 211) [] [.ai (.str av)],En),(7,Lv a0,En),(8,Iv d,En),(9,.bool En,En)],hp⟩)
theorem jo8 (a0:Option (List bn))(av:List UInt8)(hp:qi)(s0:Int)(r)(h:M1 a0 av s0=I r):jw pr pi (M2 a0 av hp) (M3 a0 av hp) s0 r:=by
 unfold M1 at h
 repeat' first|(replace h:=qb h;obtain⟨d,g,h⟩:=h;with_reducible first|replace g:=X3 hp g|skip)|(replace h:=qd h;rcases h with⟨g,h⟩|⟨g,h⟩)
 all_goals (cases h<;>((first|refine qw ?_|refine jm ?_);simp only[go_sem,seval,pi,M2,jg,M3, *]<;>rfl))
theorem jos (a0:Option (List bn))(av:List UInt8)(hp:qi){s0 d}(h:bu (M1 a0 av) s0=I d):X pr (.loop pi) (M2 a0 av hp s0)=I (M3 a0 av hp d):=zc (jo8 a0 av hp) h
def HO (a0:Option (List bn))(av:List UInt8):Option Int:=
 qa (bu (M1 a0 av) 0) fun d19=>match d19 with
  | .inl d21=>
   I d21
  | .inr d22=>
   I (-1)
theorem j1n (hp:qi){a0 av r}(h:HO a0 av=I r):qo pr (X pr) 250 [sl 2 bp a0,.fn (.func 211) [] [.ai (.str av)]] hp=I (Iv r,En,hp):=by
 unfold HO at h
 rw[ql (show pr.bO 250=I iZ from rfl) (by simp)]
 repeat' first|(replace h:=qb h;obtain⟨d,g,h⟩:=h;with_reducible first|(replace g:=jos a0 av hp g;rcases d with d|d<;>dsimp only[M2,M3,zf]at g h)|skip)|(replace h:=qd h;rcases h with⟨g,h⟩|⟨g,h⟩)
 all_goals (cases h<;>(simp only[go_sem,seval,iZ, *]<;>rfl))
def M4 (a0:Option (List bn))(av:List UInt8)(s0:Int):Option (Int⊕(Int⊕Int)):=
 cond (decide (s0<((a0.getD []).length:Int)))
  (qa (qr (a0.getD []) s0) fun eu=>
  qa (Ji eu av) fun ea=>
  cond ea
   (I (.inr (.inl s0)))
   (I (.inl (qe .i64 (s0+1)))))
  (I (.inr (.inr s0)))
def M5 (a0:Option (List bn))(av:List UInt8)(s0:Int):aY:=⟨[(0,sl 2 bp a0,En),(1,.fn (.func 211) [] [.ai (.str av)],En),(7,Lv a0,En),(8,Iv s0,En)],[]⟩
def M6 (a0:Option (List bn))(av:List UInt8):Int⊕Int→jf×aY
 | .inl d=>(.ret,⟨[(4,Iv d,En)],[]⟩)
 | .inr d=>(.exit 0,⟨[(0,sl 2 bp a0,En),(1,.fn (.func 211) [] [.ai (.str av)],En),(7,Lv a0,En),(8,Iv d,En),(9,.bool En,En)],[]⟩)
theorem jn1 (a0:Option (List bn))(av:List UInt8)(s0:Int)(r)(h:M4 a0 av s0=I r):jw pr pi (M5 a0 av) (M6 a0 av) s0 r:=by
 unfold M4 at h
 repeat' first|(replace h:=qb h;obtain⟨d,g,h⟩:=h;with_reducible first|replace g:=X3 [] g|skip)|(replace h:=qd h;rcases h with⟨g,h⟩|⟨g,h⟩)
 all_goals (cases h<;>((first|refine qw ?_|refine jm ?_);simp only[go_sem,seval,pi,M5,jg,M6, *]<;>rfl))
theorem jnk (a0:Option (List bn))(av:List UInt8){s0 d}(h:bu (M4 a0 av) s0=I d):X pr (.loop pi) (M5 a0 av s0)=I (M6 a0 av d):=zc (jn1 a0 av) h
def HI (a0:Option (List bn))(av:List UInt8):Option Int:=
 qa (bu (M4 a0 av) 0) fun d19=>match d19 with
  | .inl d21=>
   I d21
  | .inr d22=>
   I (-1)
theorem j66 {a0 av r}(h:HI a0 av=I r):qc pr (X pr) 250 [sl 2 bp a0,.fn (.func 211) [] [.ai (.str av)]]=I (Iv r,En):=by
 unfold HI at h
 refine zh iZ ?_
 repeat' first|(replace h:=qb h;obtain⟨d,g,h⟩:=h;with_reducible first|(replace g:=jnk a0 av g;rcases d with d|d<;>dsimp only[M5,M6,zf]at g h)|skip)|(replace h:=qd h;rcases h with⟨g,h⟩|⟨g,h⟩)
 all_goals (cases h<;>(simp only[go_sem,seval,iZ, *];exact⟨_,rfl⟩))
def HN (a0:Option (List bn))(av:List UInt8):Option Bool:=
 qa (HO a0 av) fun v1=>
 I (decide (0≤v1))
theorem j6j {a0 av r}(h:HN a0 av=I r):qc pr (X pr) 193 [sl 2 bp a0,.fn (.func 211) [] [.ai (.str av)]]=I (.bool r,En):=by
 unfold HN at h
 refine zh lb ?_
 repeat' first|(replace h:=qb h;obtain⟨d,g,h⟩:=h;with_reducible first|replace g:=j1n [] g|skip)|(replace h:=qd h;rcases h with⟨g,h⟩|⟨g,h⟩)
 all_goals (cases h<;>(simp only[go_sem,seval,lb, *];exact⟨_,rfl⟩))
def X4 (a0:bn)(a1:je):Option Bool:=
 I (decide (a0.k=a1.kind))
theorem zh9 (hp:qi){a0 a1 r}(h:X4 a0 a1=I r):qo pr (X pr) 226 [aN a0,.ai (aL a1)] hp=I (.bool r,En,hp):=by
 unfold X4 at h
 have hr:decide (a0.k=a1.kind)=r:=I.inj h
 subst hr
 rw[ql (show pr.bO 226=I sP from rfl) (by simp)]
 simp only[go_sem,seval,sP]<;>rfl
def M7 (a0:Option (List bn))(av:je)(s0:Int):Option (Int⊕(Int⊕Int)):=
 cond (decide (s0<((a0.getD []).length:Int)))
  (qa (qr (a0.getD []) s0) fun eu=>
  qa (X4 eu av) fun ea=>
  cond ea
   (I (.inr (.inl s0)))
   (I (.inl (qe .i64 (s0+1)))))
  (I (.inr (.inr s0)))
def M8 (a0:Option (List bn))(av:je)(hp:qi)(s0:Int):aY:=⟨[(0,sl 2 bp a0,En),(1,.fn (.func 226) [] [.ai (aL av)],En),(7,Lv a0,En),(8,Iv s0,En)],hp⟩
def M9 (a0:Option (List bn))(av:je)(hp:qi):Int⊕Int→jf×aY
 | .inl d=>(.ret,⟨[(4,Iv d,En)],hp⟩)
 | .inr d=>(.exit 0,⟨[(0,sl 2 bp a0,En),(1,.fn (.func 226) [] [.ai (aL av)],En),(7,Lv a0,En),(8,Iv d,En),(9,.bool En,En)],hp⟩)
theorem jod (a0:Option (List bn))(av:je)(hp:qi)(s0:Int)(r)(h:M7 a0 av s0=I r):jw pr pi (M8 a0 av hp) (M9 a0 av hp) s0 r:=by
 unfold M7 at h
 repeat' first|(replace h:=qb h;obtain⟨d,g,h⟩:=h;with_reducible first|replace g:=zh9 hp g|skip)|(replace h:=qd h;rcases h with⟨g,h⟩|⟨g,h⟩)
 all_goals (cases h<;>((first|refine qw ?_|refine jm ?_);simp only[go_sem,seval,pi,M8,jg,M9, *]<;>rfl))
theorem joz (a0:Option (List bn))(av:je)(hp:qi){s0 d}(h:bu (M7 a0 av) s0=I d):X pr (.loop pi) (M8 a0 av hp s0)=I (M9 a0 av hp d):=zc (jod a0 av hp) h
def HQ (a0:Option (List bn))(av:je):Option Int:=
 qa (bu (M7 a0 av) 0) fun d19=>match d19 with
  | .inl d21=>
   I d21
  | .inr d22=>
   I (-1)
theorem j53 (hp:qi){a0 av r}(h:HQ a0 av=I r):qo pr (X pr) 250 [sl 2 bp a0,.fn (.func 226) [] [.ai (aL av)]] hp=I (Iv r,En,hp):=by
 unfold HQ at h
 rw[ql (show pr.bO 250=I iZ from rfl) (by simp)]
 repeat' first|(replace h:=qb h;obtain⟨d,g,h⟩:=h;with_reducible first|(replace g:=joz a0 av hp g;rcases d with d|d<;>dsimp only[M8,M9,zf]at g h)|skip)|(replace h:=qd h;rcases h with⟨g,h⟩|⟨g,h⟩)
 all_goals (cases h<;>(simp only[go_sem,seval,iZ, *]<;>rfl))
def HP (a0:Option (List bn))(av:je):Option Bool:=
 qa (HQ a0 av) fun v1=>
 I (decide (0≤v1))
theorem j56 {a0 av r}(h:HP a0 av=I r):qc pr (X pr) 193 [sl 2 bp a0,.fn (.func 226) [] [.ai (aL av)]]=I (.bool r,En):=by
 unfold HP at h
 refine zh lb ?_
 repeat' first|(replace h:=qb h;obtain⟨d,g,h⟩:=h;with_reducible first|replace g:=j53 [] g|skip)|(replace h:=qd h;rcases h with⟨g,h⟩|⟨g,h⟩)
 all_goals (cases h<;>(simp only[go_sem,seval,lb, *];exact⟨_,rfl⟩))
def L4 (a0:bn)(l4:List UInt8):Option Bool:=
 qa (Ji a0 l4) fun v1=>
 I (!v1)
theorem zjz (hp:qi){a0 l4 r}(h:L4 a0 l4=I r):qo pr (X pr) 215 [aN a0,.ai (.fn (.func 211) [] [.ai (.str l4)])] hp=I (.bool r,En,hp):=by
 unfold L4 at h
 obtain⟨v1,h2,h⟩:=qb h
 have sQ:qo pr (X pr) 211 [aN a0,.ai (.str l4)] hp=I (.bool v1,En,hp):=X3 hp h2
 have hr:(!v1)=r:=I.inj h
 subst hr
 rw[ql (show pr.bO 215=I sR from rfl) (by simp)]
 simp only[go_sem,seval,sR,sQ]<;>rfl
def HM (a0:Option (List bn))(cf:List UInt8)(s0:(Option (List bn))×Int×Bool):Option (((Option (List bn))×Int×Bool)⊕(((Option (List bn))×Bool×Int))):=
 cond (decide (s0.2.1<((a0.getD []).length:Int)))
  (qa (qr (a0.getD []) s0.2.1) fun v20=>
  qa (L4 v20 cf) fun v22=>
  cond v22
   (cond s0.2.2
    (qa (bB s0.1 [v20]) fun v26=>
    I (.inl (v26,qe .i64 (s0.2.1+1),Gd)))
    (cond s0.1.isNone
     (qa (bB s0.1 [v20]) fun ic=>
     I (.inl (ic,qe .i64 (s0.2.1+1),Gd)))
     (Gh)))
   (I (.inl (s0.1,qe .i64 (s0.2.1+1),s0.2.2))))
  (I (.inr (s0.1,s0.2.2,s0.2.1)))
def Na (a0:Option (List bn))(cf:List UInt8)(hp:qi)(s0:(Option (List bn))×Int×Bool):aY:=⟨[(1,.fn (.func 215) [] [.ai (.fn (.func 211) [] [.ai (.str cf)])],En),(5,sl 2 bp s0.1,s0.2.2),(8,sl 2 bp a0,En),(9,Lv a0,En),(10,Iv s0.2.1,En)],hp⟩
def Nb (a0:Option (List bn))(cf:List UInt8)(hp:qi)(d:((Option (List bn))×Bool×Int)):jf×aY:=(.exit 0,⟨[(1,.fn (.func 215) [] [.ai (.fn (.func 211) [] [.ai (.str cf)])],En),(5,sl 2 bp d.1,d.2.1),(8,sl 2 bp a0,En),(9,Lv a0,En),(10,Iv d.2.2,En),(11,.bool En,En)],hp⟩)
theorem jxd (a0:Option (List bn))(cf:List UInt8)(hp:qi)(s0:(Option (List bn))×Int×Bool)(r)(h:HM a0 cf s0=I r):jw pr Nc (Na a0 cf hp) (Nb a0 cf hp) s0 r:=by
 unfold HM at h
 repeat' first|(replace h:=qb h;obtain⟨d,g,h⟩:=h;with_reducible first|replace g:=zjz hp g|replace g:=wJ g|skip)|(replace h:=qd h;rcases h with⟨g,h⟩|⟨g,h⟩)
 all_goals (cases h<;>((first|refine qw ?_|refine jm ?_);simp only[go_sem,seval,Nc,Na,jg,Nb, *]<;>rfl))
theorem js0 (a0:Option (List bn))(cf:List UInt8)(hp:qi){s0 d}(h:bu (HM a0 cf) s0=I d):X pr (.loop Nc) (Na a0 cf hp s0)=I (Nb a0 cf hp d):=zc (jxd a0 cf hp) h
def HL (a0:Option (List bn))(cf:List UInt8):Option ((Option (List bn))×Bool):=
 qa (bu (HM a0 cf) (Gh,0,En)) fun d31=>
 I (d31.1,d31.2.1)
theorem zj4 (hp:qi){a0 cf r}(h:HL a0 cf=I r):qo pr (X pr) 214 [sl 2 bp a0,.fn (.func 215) [] [.ai (.fn (.func 211) [] [.ai (.str cf)])]] hp=I (sl 2 bp r.1,r.2,hp):=by
 unfold HL at h
 rw[ql (show pr.bO 214=I sS from rfl) (by simp)]
 repeat' first|(replace h:=qb h;obtain⟨d,g,h⟩:=h;with_reducible first|(replace g:=js0 a0 cf hp g;dsimp only[Na,Nb,zf]at g h)|skip)|(replace h:=qd h;rcases h with⟨g,h⟩|⟨g,h⟩)
 all_goals (cases h<;>(simp only[go_sem,seval,sS, *]<;>rfl))
def HG (a0:Option (List bn))(a1:bn)(dU:List UInt8):Option ((Option (List bn))×Bool):=
 qa (HI a0 dU) fun v1=>
 cond (decide (0≤v1))
  (qa (jx6 a0 v1 a1) fun v4=>
  I (v4,En))
  (qa (L2 a0 a1) fun v6=>
  I (v6,Gd))
theorem zcv {a0 a1 dU r}(h:HG a0 a1 dU=I r):qc pr (X pr) 216 [sl 2 bp a0,aN a1,.fn (.func 211) [] [.ai (.str dU)]]=I (sl 2 bp r.1,r.2):=by
 unfold HG at h
 refine kg sT ?_
 repeat' first|(replace h:=qb h;obtain⟨d,g,h⟩:=h; (with_reducible first|replace g:=j66 g|replace g:=jgf g|replace g:=zb7 g|skip);try dsimp only[zf,lR,Gm,z7,yl,jd,qu,bD,jl,vev,bp,jb,yf,aE,aR,aU,aL,aP,aD]at g)|(replace h:=qd h;rcases h with⟨g,h⟩|⟨g,h⟩)
 all_goals (cases h<;>(simp only[go_sem,seval,sT, *];exact⟨_,rfl⟩))
def f217 (a0:jc)(a1:jc):Option Bool:=
 I (decide (a0.k=a1.k))
theorem zgr (hp:qi){a0 a1 r}(h:f217 a0 a1=I r):qo pr (X pr) 217 [aT a0,.ai (aT a1)] hp=I (.bool r,En,hp):=by
 unfold f217 at h
 have hr:decide (a0.k=a1.k)=r:=I.inj h
 subst hr
 rw[ql (show pr.bO 217=I sU from rfl) (by simp)]
 simp only[go_sem,seval,sU]<;>rfl
def Nd (a0:Option (List jc))(av:jc)(s0:Int):Option (Int⊕(Int⊕Int)):=
 cond (decide (s0<((a0.getD []).length:Int)))
  (qa (qr (a0.getD []) s0) fun eu=>
  qa (f217 eu av) fun ea=>
  cond ea
   (I (.inr (.inl s0)))
   (I (.inl (qe .i64 (s0+1)))))
  (I (.inr (.inr s0)))
def Nf (a0:Option (List jc))(av:jc)(s0:Int):aY:=⟨[(0,sl 3 jb a0,En),(1,.fn (.func 217) [] [.ai (aT av)],En),(7,Lv a0,En),(8,Iv s0,En)],[]⟩
def Ng (a0:Option (List jc))(av:jc):Int⊕Int→jf×aY
 | .inl d=>(.ret,⟨[(4,Iv d,En)],[]⟩)
 | .inr d=>(.exit 0,⟨[(0,sl 3 jb a0,En),(1,.fn (.func 217) [] [.ai (aT av)],En),(7,Lv a0,En),(8,Iv d,En),(9,.bool En,En)],[]⟩)
theorem jp2 (a0:Option (List jc))(av:jc)(s0:Int)(r)(h:Nd a0 av s0=I r):jw pr Ch (Nf a0 av) (Ng a0 av) s0 r:=by
 unfold Nd at h
 repeat' first|(replace h:=qb h;obtain⟨d,g,h⟩:=h;with_reducible first|replace g:=zgr [] g|skip)|(replace h:=qd h;rcases h with⟨g,h⟩|⟨g,h⟩)
 all_goals (cases h<;>((first|refine qw ?_|refine jm ?_);simp only[go_sem,seval,Ch,Nf,jg,Ng, *]<;>rfl))
theorem jog (a0:Option (List jc))(av:jc){s0 d}(h:bu (Nd a0 av) s0=I d):X pr (.loop Ch) (Nf a0 av s0)=I (Ng a0 av d):=zc (jp2 a0 av) h
def zC (a0:Option (List jc))(av:jc):Option Int:=
 qa (bu (Nd a0 av) 0) fun d19=>match d19 with
  | .inl d21=>
   I d21
  | .inr d22=>
   I (-1)
theorem jm7 {a0 av r}(h:zC a0 av=I r):qc pr (X pr) 274 [sl 3 jb a0,.fn (.func 217) [] [.ai (aT av)]]=I (Iv r,En):=by
 unfold zC at h
 refine zh nD ?_
 repeat' first|(replace h:=qb h;obtain⟨d,g,h⟩:=h;with_reducible first|(replace g:=jog a0 av g;rcases d with d|d<;>dsimp only[Nf,Ng,zf]at g h)|skip)|(replace h:=qd h;rcases h with⟨g,h⟩|⟨g,h⟩)
 all_goals (cases h<;>(simp only[go_sem,seval,nD, *];exact⟨_,rfl⟩))
def HR (a0:Option (List jc))(av:jc):Option Bool:=
 qa (zC a0 av) fun v1=>
 I (decide (0≤v1))
theorem j19 {a0 av r}(h:HR a0 av=I r):qc pr (X pr) 218 [sl 3 jb a0,.fn (.func 217) [] [.ai (aT av)]]=I (.bool r,En):=by
 unfold HR at h
 refine zh nE ?_
 repeat' first|(replace h:=qb h;obtain⟨d,g,h⟩:=h;with_reducible first|replace g:=jm7 g|skip)|(replace h:=qd h;rcases h with⟨g,h⟩|⟨g,h⟩)
 all_goals (cases h<;>(simp only[go_sem,seval,nE, *];exact⟨_,rfl⟩))
def HJ (a0:Option (List jc))(a1:jc)(dU:jc):Option ((Option (List jc))×Bool):=
 qa (zC a0 dU) fun v1=>
 cond (decide (0≤v1))
  (qa (jtc a0 v1 a1) fun v4=>
  I (v4,En))
  (qa (f277 a0 a1) fun v6=>
  I (v6,Gd))
theorem zer {a0 a1 dU r}(h:HJ a0 a1 dU=I r):qc pr (X pr) 220 [sl 3 jb a0,aT a1,.fn (.func 217) [] [.ai (aT dU)]]=I (sl 3 jb r.1,r.2):=by
 unfold HJ at h
 refine kg sV ?_
 repeat' first|(replace h:=qb h;obtain⟨d,g,h⟩:=h; (with_reducible first|replace g:=jm7 g|replace g:=jih g|replace g:=zem g|skip);try dsimp only[zf,lR,Gm,z7,yl,jd,qu,bD,jl,vev,bp,jb,yf,aE,aR,aU,aL,aP,aD]at g)|(replace h:=qd h;rcases h with⟨g,h⟩|⟨g,h⟩)
 all_goals (cases h<;>(simp only[go_sem,seval,sV, *];exact⟨_,rfl⟩))
def L5 (a0:jc)(a1:GEv):Option Bool:=
 qa (qr (a1.names.getD []) 1) fun v1=>
 I (decide (a0.k=v1))
theorem zdt (hp:qi){a0 a1 r}(h:L5 a0 a1=I r):qo pr (X pr) 234 [aT a0,.ai (aE a1)] hp=I (.bool r,En,hp):=by
 unfold L5 at h
 obtain⟨v1,h2,h⟩:=qb h
 have hr:decide (a0.k=v1)=r:=I.inj h
 subst hr
 rw[ql (show pr.bO 234=I sW from rfl) (by simp)]
 simp only[go_sem,seval,sW,zj h2]<;>rfl
def HU (a0:Option (List jc))(av:GEv)(s0:Int):Option (Int⊕(Int⊕Int)):=
 cond (decide (s0<((a0.getD []).length:Int)))
  (qa (qr (a0.getD []) s0) fun eu=>
  qa (L5 eu av) fun ea=>
  cond ea
   (I (.inr (.inl s0)))
   (I (.inl (qe .i64 (s0+1)))))
  (I (.inr (.inr s0)))
def Nh (a0:Option (List jc))(av:GEv)(s0:Int):aY:=⟨[(0,sl 3 jb a0,En),(1,.fn (.func 234) [] [.ai (aE av)],En),(7,Lv a0,En),(8,Iv s0,En)],[]⟩
def Ni (a0:Option (List jc))(av:GEv):Int⊕Int→jf×aY
 | .inl d=>(.ret,⟨[(4,Iv d,En)],[]⟩)
 | .inr d=>(.exit 0,⟨[(0,sl 3 jb a0,En),(1,.fn (.func 234) [] [.ai (aE av)],En),(7,Lv a0,En),(8,Iv d,En),(9,.bool En,En)],[]⟩)
theorem jny (a0:Option (List jc))(av:GEv)(s0:Int)(r)(h:HU a0 av s0=I r):jw pr Ch (Nh a0 av) (Ni a0 av) s0 r:=by
 unfold HU at h
 repeat' first|(replace h:=qb h;obtain⟨d,g,h⟩:=h;with_reducible first|replace g:=zdt [] g|skip)|(replace h:=qd h;rcases h with⟨g,h⟩|⟨g,h⟩)
 all_goals (cases h<;>((first|refine qw ?_|refine jm ?_);simp only[go_sem,seval,Ch,Nh,jg,Ni, *]<;>rfl))
theorem joc (a0:Option (List jc))(av:GEv){s0 d}(h:bu (HU a0 av) s0=I d):X pr (.loop Ch) (Nh a0 av s0)=I (Ni a0 av d):=zc (jny a0 av) h
def HT (a0:Option (List jc))(av:GEv):Option Int:=
 qa (bu (HU a0 av) 0) fun d19=>match d19 with
  | .inl d21=>
   I d21
  | .inr d22=>
   I (-1)
theorem j40 {a0 av r}(h:HT a0 av=I r):qc pr (X pr) 274 [sl 3 jb a0,.fn (.func 234) [] [.ai (aE av)]]=I (Iv r,En):=by
 unfold HT at h
 refine zh nD ?_
 repeat' first|(replace h:=qb h;obtain⟨d,g,h⟩:=h;with_reducible first|(replace g:=joc a0 av g;rcases d with d|d<;>dsimp only[Nh,Ni,zf]at g h)|skip)|(replace h:=qd h;rcases h with⟨g,h⟩|⟨g,h⟩)
 all_goals (cases h<;>(simp only[go_sem,seval,nD, *];exact⟨_,rfl⟩))
def HS (a0:Option (List jc))(av:GEv):Option Bool:=
 qa (HT a0 av) fun v1=>
 I (decide (0≤v1))
theorem j8g {a0 av r}(h:HS a0 av=I r):qc pr (X pr) 218 [sl 3 jb a0,.fn (.func 234) [] [.ai (aE av)]]=I (.bool r,En):=by
 unfold HS at h
 refine zh nE ?_
 repeat' first|(replace h:=qb h;obtain⟨d,g,h⟩:=h;with_reducible first|replace g:=j40 g|skip)|(replace h:=qd h;rcases h with⟨g,h⟩|⟨g,h⟩)
 all_goals (cases h<;>(simp only[go_sem,seval,nE, *];exact⟨_,rfl⟩))
def X5 (a0:bn)(a1:je):Option Bool:=
 I (decide (a0.k=a1.name))
theorem zcu (hp:qi){a0 a1 r}(h:X5 a0 a1=I r):qo pr (X pr) 229 [aN a0,.ai (aL a1)] hp=I (.bool r,En,hp):=by
 unfold X5 at h
 have hr:decide (a0.k=a1.name)=r:=I.inj h
 subst hr
 rw[ql (show pr.bO 229=I sX from rfl) (by simp)]
 simp only[go_sem,seval,sX]<;>rfl
def Nj (a0:Option (List bn))(av:je)(s0:Int):Option (Int⊕(Int⊕Int)):=
 cond (decide (s0<((a0.getD []).length:Int)))
  (qa (qr (a0.getD []) s0) fun eu=>
  qa (X5 eu av) fun ea=>
  cond ea
   (I (.inr (.inl s0)))
   (I (.inl (qe .i64 (s0+1)))))
  (I (.inr (.inr s0)))
def Nk (a0:Option (List bn))(av:je)(s0:Int):aY:=⟨[(0,sl 2 bp a0,En),(1,.fn (.func 229) [] [.ai (aL av)],En),(7,Lv a0,En),(8,Iv s0,En)],[]⟩
def Nn (a0:Option (List bn))(av:je):Int⊕Int→jf×aY
 | .inl d=>(.ret,⟨[(4,Iv d,En)],[]⟩)
 | .inr d=>(.exit 0,⟨[(0,sl 2 bp a0,En),(1,.fn (.func 229) [] [.ai (aL av)],En),(7,Lv a0,En),(8,Iv d,En),(9,.bool En,En)],[]⟩)
theorem juk (a0:Option (List bn))(av:je)(s0:Int)(r)(h:Nj a0 av s0=I r):jw pr Np (Nk a0 av) (Nn a0 av) s0 r:=by
 unfold Nj at h
 repeat' first|(replace h:=qb h;obtain⟨d,g,h⟩:=h;with_reducible first|replace g:=zcu [] g|skip)|(replace h:=qd h;rcases h with⟨g,h⟩|⟨g,h⟩)
 all_goals (cases h<;>((first|refine qw ?_|refine jm ?_);simp only[go_sem,seval,Np,Nk,jg,Nn, *]<;>rfl))
theorem jup (a0:Option (List bn))(av:je){s0 d}(h:bu (Nj a0 av) s0=I d):X pr (.loop Np) (Nk a0 av s0)=I (Nn a0 av d):=zc (juk a0 av) h
def zD (a0:Option (List bn))(av:je):Option Int:=
 qa (bu (Nj a0 av) 0) fun d19=>match d19 with
  | .inl d21=>
   I d21
  | .inr d22=>
   I (-1)
theorem js5 {a0 av r}(h:zD a0 av=I r):qc pr (X pr) 230 [sl 2 bp a0,.fn (.func 229) [] [.ai (aL av)]]=I (Iv r,En):=by
 unfold zD at h
 refine zh sY ?_
 repeat' first|(replace h:=qb h;obtain⟨d,g,h⟩:=h;with_reducible first|(replace g:=jup a0 av g;rcases d with d|d<;>dsimp only[Nk,Nn,zf]at g h)|skip)|(replace h:=qd h;rcases h with⟨g,h⟩|⟨g,h⟩)
 all_goals (cases h<;>(simp only[go_sem,seval,sY, *];exact⟨_,rfl⟩))
def HK (a0:Option (List bn))(a1:bn)(dU:je):Option ((Option (List bn))×Bool):=
 qa (zD a0 dU) fun v1=>
 cond (decide (0≤v1))
  (qa (jro a0 v1 a1) fun v4=>
  I (v4,En))
  (qa (f284 a0 a1) fun v6=>
  I (v6,Gd))
theorem zf0 {a0 a1 dU r}(h:HK a0 a1 dU=I r):qc pr (X pr) 233 [sl 2 bp a0,aN a1,.fn (.func 229) [] [.ai (aL dU)]]=I (sl 2 bp r.1,r.2):=by
 unfold HK at h
 refine kg sZ ?_
 repeat' first|(replace h:=qb h;obtain⟨d,g,h⟩:=h; (with_reducible first|replace g:=js5 g|replace g:=ji1 g|replace g:=zju g|skip);try dsimp only[zf,lR,Gm,z7,yl,jd,qu,bD,jl,vev,bp,jb,yf,aE,aR,aU,aL,aP,aD]at g)|(replace h:=qd h;rcases h with⟨g,h⟩|⟨g,h⟩)
 all_goals (cases h<;>(simp only[go_sem,seval,sZ, *];exact⟨_,rfl⟩))
end Go.Z
namespace Go.Z
open Go Go.Abs Go.W
theorem E1 {α:Type}{f:α→AVal}{sz}(E:pe f sz){l i o x y u}(hx:l[i]?=I x)(ho:o<sz)(hy:(f y).flat=(f x).flat.set o u)(w:Bool):((bM f l).set (i*sz+o) (u,w)).map (·.1)=j9 f (l.set i y):=by
 have h:=congrArg (Gm (·.1)) (q6l E.len hx ho hy)
 rw[List.map_set]at h ⊢
 rw[show(bM f (l.set i y)).map (·.1)=j9 f (l.set i y)from z8]at h
 exact h
theorem Jj {α:Type}{f:α→AVal}{sz}(E:pe f sz){l i o x}(hx:l[i]?=I x)(ho:o<sz):i*sz+o<(bM f l).length:=by
 have h:=(D4 (n:=1) (o:=o) E.len hx (by omega)).2
 simp only[bM,cellsOf,Gr]
 omega
def H2 (c:Int)(nm k:List UInt8)(x:aC):Option aC:=cond (decide (c=0))
 (qa (HL x.dn nm) fun v=>I { x with dn:=v.1 })
 (qa (HG x.dn ⟨k,c⟩ nm) fun v=>I { x with dn:=v.1 })
theorem zht {l:List aC}{i:Nat}{x y c nm k}(hx:l[i]?=I x)(h:H2 c nm k x=I y):
  ∃cs,qo pr (X pr) 213 [.ptr 0 (i*4+1),.ai (Iv c),.ai (.fn (.func 211) [] [.ai (.str nm)]),.ai (.str k)] [.cells (bM qu l)]=I (.aJ [],En,[.cells cs])∧cs.map (·.1)=j9 qu (l.set i y):=by
 unfold H2 at h
 have ld:zi (bM qu l) (i*4+1) 1=I [sl 2 bp x.dn]:=vz (o:=1) cK.len hx (by decide)
 have hb:=Jj cK (o:=1) hx (by decide)
 rcases qd h with⟨h1,h⟩|⟨h1,h⟩
 ·obtain⟨v,hv,h⟩:=qb h
  cases h
  have w:=zj4 [.cells (bM qu l)] hv
  rcases v with⟨v,o⟩
  have hy:(qu { x with dn:=v }).flat=(qu x).flat.set 1 (sl 2 bp v):=rfl
  have st:jr (bM qu l) (i*4+1) [sl 2 bp v]=I (bM qu (l.set i { x with dn:=v })):=mE (o:=1) cK.len hx (Ga rfl) (by simp only[G8,go_sem,Gn]) rfl
  cases o with
  |true=>exact⟨_,by rw[ql (show pr.bO 213=I jA from rfl) (by simp)];simp only[go_sem,seval,jA,h1,ld,w,hb]<;>rfl,E1 cK hx (by decide) hy Gd⟩
  |false=>exact⟨_,by rw[ql (show pr.bO 213=I jA from rfl) (by simp)];simp only[go_sem,seval,jA,h1,ld,w,st]<;>rfl,z8⟩
 ·obtain⟨v,hv,h⟩:=qb h
  cases h
  have w:qc pr (X pr) 216 [sl 2 bp x.dn,.agg [.str k,Iv c],.fn (.func 211) [] [.ai (.str nm)]]=I (sl 2 bp v.1,v.2):=zcv hv
  rcases v with⟨v,o⟩
  have hy:(qu { x with dn:=v }).flat=(qu x).flat.set 1 (sl 2 bp v):=rfl
  have st:jr (bM qu l) (i*4+1) [sl 2 bp v]=I (bM qu (l.set i { x with dn:=v })):=mE (o:=1) cK.len hx (Ga rfl) (by simp only[G8,go_sem,Gn]) rfl
  cases o with
  |true=>exact⟨_,by rw[ql (show pr.bO 213=I jA from rfl) (by simp)];simp only[go_sem,seval,jA,h1,ld,w,hb]<;>rfl,E1 cK hx (by decide) hy Gd⟩
  |false=>exact⟨_,by rw[ql (show pr.bO 213=I jA from rfl) (by simp)];simp only[go_sem,seval,jA,h1,ld,w,st]<;>rfl,z8⟩
def TP (l:Option (List aC))(i:Int)(c:Int)(nm k:List UInt8):Option (Option (List aC)):=gv l i (H2 c nm k)
theorem jjl {l i c nm k r}(h:TP l i c nm k=I r):qc pr (X pr) 221 [sl 4 qu l,Iv i,.fn (.func 270) [] [.ai (.fn (.func 213) [] [.ai (Iv c),.ai (.fn (.func 211) [] [.ai (.str nm)]),.ai (.str k)])]]=I (sl 4 qu r,En):=by
 refine XZ (fun n x y hx hy=>?_) h
 obtain⟨cs,h1,h2⟩:=zht hx hy
 exact⟨cs,by rw[ql (show pr.bO 270=I nF from rfl) (by simp)];simp only[go_sem,seval,nF,h1]<;>rfl,h2⟩
def H3 (t s:jc)(x:aC):Option aC:=qa (HJ x.dt t s) fun v=>I { x with dt:=v.1 }
theorem zie {l:List aC}{i:Nat}{x y t s}(hx:l[i]?=I x)(h:H3 t s x=I y):
  ∃cs,qo pr (X pr) 219 [.ptr 0 (i*4+1),.ai (jb t),.ai (.fn (.func 217) [] [.ai (jb s)])] [.cells (bM qu l)]=I (.aJ [],En,[.cells cs])∧cs.map (·.1)=j9 qu (l.set i y):=by
 unfold H3 at h
 have ld:zi (bM qu l) (i*4+1+1) 1=I [sl 3 jb x.dt]:=vz (o:=2) cK.len hx (by decide)
 have hb:i*4+1+1<(bM qu l).length:=Jj cK (o:=2) hx (by decide)
 obtain⟨v,hv,h⟩:=qb h
 cases h
 have w:qc pr (X pr) 220 [sl 3 jb x.dt,aT t,.fn (.func 217) [] [.ai (aT s)]]=I (sl 3 jb v.1,v.2):=zer hv
 rcases v with⟨v,o⟩
 have hy:(qu { x with dt:=v }).flat=(qu x).flat.set 2 (sl 3 jb v):=rfl
 have st:jr (bM qu l) (i*4+1+1) [sl 3 jb v]=I (bM qu (l.set i { x with dt:=v })):=mE (o:=2) cK.len hx (Ga rfl) (by simp only[G8,go_sem,Gn]) rfl
 cases o with
 |true=>exact⟨_,by rw[ql (show pr.bO 219=I nG from rfl) (by simp)];simp only[go_sem,seval,nG,jb,ld,w,hb]<;>rfl,E1 cK (o:=2) hx (by decide) hy Gd⟩
 |false=>exact⟨_,by rw[ql (show pr.bO 219=I nG from rfl) (by simp)];simp only[go_sem,seval,nG,jb,ld,w,st]<;>rfl,z8⟩
def TQ (l:Option (List aC))(i:Int)(t s:jc):Option (Option (List aC)):=gv l i (H3 t s)
theorem jjw {l i t s r}(h:TQ l i t s=I r):qc pr (X pr) 221 [sl 4 qu l,Iv i,.fn (.func 270) [] [.ai (.fn (.func 219) [] [.ai (jb t),.ai (.fn (.func 217) [] [.ai (jb s)])])]]=I (sl 4 qu r,En):=by
 refine XZ (fun n x y hx hy=>?_) h
 obtain⟨cs,h1,h2⟩:=zie hx hy
 simp only[jdo]at h1
 exact⟨cs,by rw[ql (show pr.bO 270=I nF from rfl) (by simp)];simp only[go_sem,seval,nF,h1]<;>rfl,h2⟩
def L9 (x:aC):Option aC:=qa (f224 ⟨x.dn,x.dt⟩) fun d=>qa (L0 x.aH d) fun v=>I { x with aH:=v }
theorem zjv {l:List aC}{i:Nat}{x y}(hx:l[i]?=I x)(h:L9 x=I y):
  ∃cs,qo pr (X pr) 222 [.ptr 0 (i*4)] [.cells (bM qu l)]=I (.aJ [],En,[.cells cs])∧cs.map (·.1)=j9 qu (l.set i y):=by
 unfold L9 at h
 have ld:zi (bM qu l) (i*4+3) 1=I [sl 2 yf x.aH]:=vz (o:=3) cK.len hx (by decide)
 have X6:zi (bM qu l) (i*4+1) 2=I [sl 2 bp x.dn,sl 3 jb x.dt]:=vz (o:=1) cK.len hx (by decide)
 have hb:i*4+3<(bM qu l).length:=Jj cK (o:=3) hx (by decide)
 obtain⟨d,hd,h⟩:=qb h
 obtain⟨v,hv,h⟩:=qb h
 cases h
 have w:qc pr (X pr) 224 [.agg [sl 2 bp x.dn,sl 3 jb x.dt]]=I (aD d,En):=zkb hd
 have w2:qc pr (X pr) 223 [sl 2 yf x.aH,aD d]=I (sl 2 yf v,Gd):=zei hv
 have hy:(qu { x with aH:=v }).flat=(qu x).flat.set 3 (sl 2 yf v):=rfl
 exact⟨_,by rw[ql (show pr.bO 222=I s5 from rfl) (by simp)];simp only[go_sem,seval,s5,ld,X6,w,w2,hb]<;>rfl,E1 cK (o:=3) hx (by decide) hy Gd⟩
def L8 (l:Option (List aC))(i:Int):Option (Option (List aC)):=gv l i L9
theorem jjr {l i r}(h:L8 l i=I r):qc pr (X pr) 221 [sl 4 qu l,Iv i,.fn (.func 222) [] []]=I (sl 4 qu r,En):=
 XZ (fun n x y hx hy=>zjv hx hy) h
def Ma (e:GEv)(x:bg):Option bg:=qa (qr (e.names.getD []) 1) fun n=>qa (qr (e.values.getD []) 1) fun b=>qa (L3 x.results ⟨n,x.version,b⟩) fun v=>I { x with results:=v }
theorem zbp {l:List bg}{i:Nat}{x y e}(hx:l[i]?=I x)(h:Ma e x=I y):
  ∃cs,qo pr (X pr) 235 [.ptr 0 (i*8),.ai (vev e)] [.cells (bM bD l)]=I (.aJ [],En,[.cells cs])∧cs.map (·.1)=j9 bD (l.set i y):=by
 unfold Ma at h
 have ld:zi (bM bD l) (i*8+4) 1=I [sl 3 jb x.results]:=vz (o:=4) ez.len hx (by decide)
 have X6:zi (bM bD l) (i*8+2) 1=I [Iv x.version]:=vz (o:=2) ez.len hx (by decide)
 have hb:i*8+4<(bM bD l).length:=Jj ez (o:=4) hx (by decide)
 obtain⟨n,hn,h⟩:=qb h
 obtain⟨b,DQ,h⟩:=qb h
 obtain⟨v,hv,h⟩:=qb h
 cases h
 have w:qc pr (X pr) 236 [sl 3 jb x.results,.agg [.str n,Iv x.version,Iv b]]=I (sl 3 jb v,Gd):=zdx hv
 have hy:(bD { x with results:=v }).flat=(bD x).flat.set 4 (sl 3 jb v):=rfl
 exact⟨_,by rw[ql (show pr.bO 235=I s6 from rfl) (by simp)];simp only[go_sem,seval,s6,vev,zj hn,zj DQ,ld,X6,w,hb]<;>rfl,E1 ez (o:=4) hx (by decide) hy Gd⟩
def TX (l:Option (List bg))(i:Int)(e:GEv):Option (Option (List bg)):=gv l i (Ma e)
theorem jjn {l i e r}(h:TX l i e=I r):qc pr (X pr) 231 [sl 8 bD l,Iv i,.fn (.func 235) [] [.ai (vev e)]]=I (sl 8 bD r,En):=
 E0 (fun n x y hx hy=>zbp hx hy) h
def Eo (s:bn)(t:je)(x:bg):Option bg:=qa (HK x.uses s t) fun v=>I { x with uses:=v.1 }
theorem jsm {b0 b1 b2 di:bh}{l:List bg}{i x y s t}(hx:l[i]?=I x)(h:Eo s t x=I y):
  ∃cs,qo pr (X pr) 232 [.ptr 5 (i*8),.ptr 4 0,.ai (.fn (.func 229) [] [.ai (jd t)])] [b0,b1,b2,di,.cells [(.str s.k,En),(Iv s.n,En)],.cells (bM bD l)]=I (.aJ [],En,[b0,b1,b2,di,.cells [(.str s.k,En),(Iv s.n,En)],.cells cs])∧cs.map (·.1)=j9 bD (l.set i y):=by
 unfold Eo at h
 have ld:zi (bM bD l) (i*8+3) 1=I [sl 2 bp x.uses]:=vz (o:=3) ez.len hx (by decide)
 have hb:i*8+3<(bM bD l).length:=Jj ez (o:=3) hx (by decide)
 obtain⟨v,hv,h⟩:=qb h
 cases h
 have w:qc pr (X pr) 233 [sl 2 bp x.uses,aN s,.fn (.func 229) [] [.ai (aL t)]]=I (sl 2 bp v.1,v.2):=zf0 hv
 rcases v with⟨v,o⟩
 have hy:(bD { x with uses:=v }).flat=(bD x).flat.set 3 (sl 2 bp v):=rfl
 have st:jr (bM bD l) (i*8+3) [sl 2 bp v]=I (bM bD (l.set i { x with uses:=v })):=mE (o:=3) ez.len hx (Ga rfl) (by simp only[G8,go_sem,Gn]) rfl
 cases o with
 |true=>exact⟨_,by rw[ql (show pr.bO 232=I nH from rfl) (by simp)];simp only[go_sem,seval,nH,jd,ld,w,hb]<;>rfl,E1 ez (o:=3) hx (by decide) hy Gd⟩
 |false=>exact⟨_,by rw[ql (show pr.bO 232=I nH from rfl) (by simp)];simp only[go_sem,seval,nH,jd,ld,w,st]<;>rfl,z8⟩
end Go.Z
namespace Go.Z
open Go Go.Abs Go.W
def Br {α:Type}(l:Option (List α))(i:Int)(x:α):Option (Option (List α)):=
 if(l.getD []).length≤1073741824∧0≤i∧i<(l.getD []).length then I (I ((l.getD []).set i.toNat x))else Gh
theorem X7 {α:Type}{l:Option (List α)}{i x r}(h:Br l i x=I r):∃(n:Nat),i=(n:Int)∧(l.getD []).length≤1073741824∧n<(l.getD []).length∧r=I ((l.getD []).set n x):=by
 unfold Br at h
 split at h
 ·rename_i hc
  cases h
  exact⟨i.toNat,(Int.toNat_of_nonneg hc.2.1).symm,hc.1,by omega,rfl⟩
 ·cases h
section
variable {α:Type}{f:α→AVal}{sz:Nat}{h:qi}
theorem jac {l}:cellsOf ((l.map f).flatMap AVal.flat)=bM f l:=rfl
theorem X8 (E:pe f sz){n0 r b t l}(hl:(l.getD []).length≤1073741824)(hb:b≤4096){h'}(hh:aS n0 h r (.cells (bM f (l.getD [])))=I h'):BU n0 r sz b h (I t) (I (.list En sz [])) (I (sl sz f l))=I ⟨.ms (n0+r) 0 (l.getD []).length,En,I t,h'⟩:=by
 have hs:zw sz (sl sz f l)=I ((l.getD []).map f):=S5
 have h1:0<sz:=by have:=E.big;omega
 simp only[BU]
 rw[hs]
 simp only[Option.isSome_some,Gq,Gn,cond_true,Gr,Gj hl,Gj hb,G9.mpr h1,jac,hh]
theorem X9 (E:pe f sz){l i y}(hi:i<l.length):jr (bM f l) (i*sz) (f y).flat=I (bM f (l.set i y)):=by
 have hx:l[i]?=I l[i]:=List.getElem?_eq_getElem hi
 have hl:=E.len l[i]
 have hly:=E.len y
 have:=mE (o:=0) (us:=(f y).flat) (y:=y) E.len hx (by omega) (E.sc y) (by rw[Hb,G7,Gs (by omega),Ha])
 rw[Nat.add_zero]at this
 exact this
end
def zG (a0:ak)(a1:Int)(x:je):Option ak:=qa (Br a0.au a1 x) fun v=>I { a0 with au:=v }
theorem jrl {a0:ak}{a1:Int}{x r}(h:zG a0 a1 x=I r):qc pr (X pr) 262 [aR a0,Iv a1,aL x]=I (aR r,En):=by
 obtain⟨v,hv,h⟩:=qb h
 cases h
 obtain⟨n,rfl,hl,hi,rfl⟩:=X7 hv
 have ap:BU 2 0 5 56 [kR a0.day a0.au a0.ae a0.units,kZ,.hole] (I 7) (I (.list En 5 [])) (I (sl 5 jd a0.au))=I ⟨.ms 2 0 (a0.au.getD []).length,En,I 7,[kR a0.day a0.au a0.ae a0.units,kZ,.cells (bM jd (a0.au.getD []))]⟩:=by apply X8 gy<;>first|exact hl|rfl|decide
 have st:jr (bM jd (a0.au.getD [])) (n*5) [.str x.name,.str x.kind,Iv x.count,Iv x.left,.bool x.held]=I (bM jd ((a0.au.getD []).set n x)):=X9 (y:=x) gy hi
 have this:qo pr (X pr) 262 [aR a0,Iv (n:Int),aL x] []=I (.agg [Iv a0.day,.ms 2 0 (a0.au.getD []).length,sl 4 qu a0.ae,sl 8 bD a0.units],En,[.cells [(Iv a0.day,En),(.ms 2 0 (a0.au.getD []).length,En),(sl 4 qu a0.ae,En),(sl 8 bD a0.units,En)],.cells [(Iv a0.day,En),(.ms 2 0 (a0.au.getD []).length,En),(sl 4 qu a0.ae,En),(sl 8 bD a0.units,En)],.cells (bM jd ((a0.au.getD []).set n x))]):=by
  rw[ql (show pr.bO 262=I s7 from rfl) (by simp)]
  simp only[go_sem,seval,s7,ap,vS hi,st]<;>rfl
 have fz:yq [.cells [(Iv a0.day,En),(.ms 2 0 (a0.au.getD []).length,En),(sl 4 qu a0.ae,En),(sl 8 bD a0.units,En)],.cells [(Iv a0.day,En),(.ms 2 0 (a0.au.getD []).length,En),(sl 4 qu a0.ae,En),(sl 8 bD a0.units,En)],.cells (bM jd ((a0.au.getD []).set n x))] (.ms 2 0 (a0.au.getD []).length)=I (sl 5 jd (I ((a0.au.getD []).set n x))):=by
  have:=vR gy (l:=(a0.au.getD []).set n x) (by rw[Gi];omega) (cs:=bM jd ((a0.au.getD []).set n x)) z8
  rw[Gi]at this
  exact this
 refine zo rfl this (v':=.agg [Iv a0.day,sl 5 jd (I ((a0.au.getD []).set n x)),sl 4 qu a0.ae,sl 8 bD a0.units]) ?_ (by first|rfl|simp only[go_sem,seval])
 rw[Tc]
 simp only[go_sem,seval,fz]<;>rfl
def zH (a0:ak)(a1:Int)(x:aC):Option ak:=qa (Br a0.ae a1 x) fun v=>I { a0 with ae:=v }
theorem zd4 {a0:ak}{a1:Int}{x r}(h:zH a0 a1 x=I r):qc pr (X pr) 261 [aR a0,Iv a1,aP x]=I (aR r,En):=by
 obtain⟨v,hv,h⟩:=qb h
 cases h
 obtain⟨n,rfl,hl,hi,rfl⟩:=X7 hv
 have ap:BU 2 0 4 88 [kR a0.day a0.au a0.ae a0.units,kZ,.hole] (I 7) (I (.list En 4 [])) (I (sl 4 qu a0.ae))=I ⟨.ms 2 0 (a0.ae.getD []).length,En,I 7,[kR a0.day a0.au a0.ae a0.units,kZ,.cells (bM qu (a0.ae.getD []))]⟩:=by apply X8 cK<;>first|exact hl|rfl|decide
 have st:jr (bM qu (a0.ae.getD [])) (n*4) [.str x.name,sl 2 bp x.dn,sl 3 jb x.dt,sl 2 yf x.aH]=I (bM qu ((a0.ae.getD []).set n x)):=X9 (y:=x) cK hi
 have this:qo pr (X pr) 261 [aR a0,Iv (n:Int),aP x] []=I (.agg [Iv a0.day,sl 5 jd a0.au,.ms 2 0 (a0.ae.getD []).length,sl 8 bD a0.units],En,[.cells [(Iv a0.day,En),(sl 5 jd a0.au,En),(.ms 2 0 (a0.ae.getD []).length,En),(sl 8 bD a0.units,En)],.cells [(Iv a0.day,En),(sl 5 jd a0.au,En),(.ms 2 0 (a0.ae.getD []).length,En),(sl 8 bD a0.units,En)],.cells (bM qu ((a0.ae.getD []).set n x))]):=by
  rw[ql (show pr.bO 261=I s9 from rfl) (by simp)]
  simp only[go_sem,seval,s9,ap,vS hi,st]<;>rfl
 have fz:yq [.cells [(Iv a0.day,En),(sl 5 jd a0.au,En),(.ms 2 0 (a0.ae.getD []).length,En),(sl 8 bD a0.units,En)],.cells [(Iv a0.day,En),(sl 5 jd a0.au,En),(.ms 2 0 (a0.ae.getD []).length,En),(sl 8 bD a0.units,En)],.cells (bM qu ((a0.ae.getD []).set n x))] (.ms 2 0 (a0.ae.getD []).length)=I (sl 4 qu (I ((a0.ae.getD []).set n x))):=by
  have:=vR cK (l:=(a0.ae.getD []).set n x) (by rw[Gi];omega) (cs:=bM qu ((a0.ae.getD []).set n x)) z8
  rw[Gi]at this
  exact this
 refine zo rfl this (v':=.agg [Iv a0.day,sl 5 jd a0.au,sl 4 qu (I ((a0.ae.getD []).set n x)),sl 8 bD a0.units]) ?_ (by first|rfl|simp only[go_sem,seval])
 rw[Tc]
 simp only[go_sem,seval,fz]<;>rfl
def f267 (a0:ak)(a1:Int)(x:bg):Option ak:=qa (Br a0.units a1 x) fun v=>I { a0 with units:=v }
theorem Ya {a0:ak}{a1:Int}{x r}(h:f267 a0 a1 x=I r):qc pr (X pr) 267 [aR a0,Iv a1,aU x]=I (aR r,En):=by
 obtain⟨v,hv,h⟩:=qb h
 cases h
 obtain⟨n,rfl,hl,hi,rfl⟩:=X7 hv
 have ap:BU 2 0 8 120 [kR a0.day a0.au a0.ae a0.units,kZ,.hole] (I 7) (I (.list En 8 [])) (I (sl 8 bD a0.units))=I ⟨.ms 2 0 (a0.units.getD []).length,En,I 7,[kR a0.day a0.au a0.ae a0.units,kZ,.cells (bM bD (a0.units.getD []))]⟩:=by apply X8 ez<;>first|exact hl|rfl|decide
 have st:jr (bM bD (a0.units.getD [])) (n*8) [.str x.name,.str x.product,Iv x.version,sl 2 bp x.uses,sl 3 jb x.results,.str x.partner,.bool x.ar,Iv x.ah]=I (bM bD ((a0.units.getD []).set n x)):=X9 (y:=x) ez hi
 have this:qo pr (X pr) 267 [aR a0,Iv (n:Int),aU x] []=I (.agg [Iv a0.day,sl 5 jd a0.au,sl 4 qu a0.ae,.ms 2 0 (a0.units.getD []).length],En,[.cells [(Iv a0.day,En),(sl 5 jd a0.au,En),(sl 4 qu a0.ae,En),(.ms 2 0 (a0.units.getD []).length,En)],.cells [(Iv a0.day,En),(sl 5 jd a0.au,En),(sl 4 qu a0.ae,En),(.ms 2 0 (a0.units.getD []).length,En)],.cells (bM bD ((a0.units.getD []).set n x))]):=by
  rw[ql (show pr.bO 267=I tc from rfl) (by simp)]
  simp only[go_sem,seval,tc,ap,vS hi,st]<;>rfl
 have fz:yq [.cells [(Iv a0.day,En),(sl 5 jd a0.au,En),(sl 4 qu a0.ae,En),(.ms 2 0 (a0.units.getD []).length,En)],.cells [(Iv a0.day,En),(sl 5 jd a0.au,En),(sl 4 qu a0.ae,En),(.ms 2 0 (a0.units.getD []).length,En)],.cells (bM bD ((a0.units.getD []).set n x))] (.ms 2 0 (a0.units.getD []).length)=I (sl 8 bD (I ((a0.units.getD []).set n x))):=by
  have:=vR ez (l:=(a0.units.getD []).set n x) (by rw[Gi];omega) (cs:=bM bD ((a0.units.getD []).set n x)) z8
  rw[Gi]at this
  exact this
 refine zo rfl this (v':=.agg [Iv a0.day,sl 5 jd a0.au,sl 4 qu a0.ae,sl 8 bD (I ((a0.units.getD []).set n x))]) ?_ (by first|rfl|simp only[go_sem,seval])
 rw[Tc]
 simp only[go_sem,seval,fz]<;>rfl
end Go.Z
namespace Go.Z
open Go Go.Abs Go.W
def Bs (a0:Option (List bn))(a1:bn)(s0:(Option (List bn))×Bool×Int×Bool):Option (((Option (List bn))×Bool×Int×Bool)⊕(((Option (List bn))×Bool×Bool×Int))):=
 cond (decide (s0.2.2.1<((a0.getD []).length:Int)))
  (qa (qr (a0.getD []) s0.2.2.1) fun v24=>
  cond (decide (v24.k=a1.k))
   (cond (decide (0<a1.n))
    (cond s0.2.2.2
     (qa (bB s0.1 [a1]) fun ic=>
     I (.inl (ic,Gd,qe .i64 (s0.2.2.1+1),Gd)))
     (cond s0.1.isNone
      (qa (bB s0.1 [a1]) fun lu=>
      I (.inl (lu,Gd,qe .i64 (s0.2.2.1+1),Gd)))
      (Gh)))
    (I (.inl (s0.1,Gd,qe .i64 (s0.2.2.1+1),s0.2.2.2))))
   (cond s0.2.2.2
    (qa (bB s0.1 [v24]) fun cM=>
    I (.inl (cM,s0.2.1,qe .i64 (s0.2.2.1+1),Gd)))
    (cond s0.1.isNone
     (qa (bB s0.1 [v24]) fun tf=>
     I (.inl (tf,s0.2.1,qe .i64 (s0.2.2.1+1),Gd)))
     (Gh))))
  (I (.inr (s0.1,s0.2.2.2,s0.2.1,s0.2.2.1)))
def Nq (a0:Option (List bn))(a1:bn)(s0:(Option (List bn))×Bool×Int×Bool):aY:=⟨[(0,sl 2 bp a0,En),(3,.ai (aN a1),En),(5,sl 2 bp s0.1,s0.2.2.2),(6,.bool s0.2.1,En),(7,Iv s0.2.2.1,En)],[]⟩
def Nr (a0:Option (List bn))(a1:bn)(d:((Option (List bn))×Bool×Bool×Int)):jf×aY:=(.exit 0,⟨[(0,sl 2 bp a0,En),(3,.ai (aN a1),En),(5,sl 2 bp d.1,d.2.1),(6,.bool d.2.2.1,En),(7,Iv d.2.2.2,En),(11,.bool En,En)],[]⟩)
theorem jvq (a0:Option (List bn))(a1:bn)(s0:(Option (List bn))×Bool×Int×Bool)(r)(h:Bs a0 a1 s0=I r):jw pr Ns (Nq a0 a1) (Nr a0 a1) s0 r:=by
 unfold Bs at h
 repeat' first|(replace h:=qb h;obtain⟨d,g,h⟩:=h;with_reducible first|replace g:=wJ g|skip)|(replace h:=qd h;rcases h with⟨g,h⟩|⟨g,h⟩)
 all_goals (cases h<;>((first|refine qw ?_|refine jm ?_);simp only[go_sem,seval,Ns,Nq,jg,Nr, *]<;>rfl))
theorem jug (a0:Option (List bn))(a1:bn){s0 d}(h:bu (Bs a0 a1) s0=I d):X pr (.loop Ns) (Nq a0 a1 s0)=I (Nr a0 a1 d):=zc (jvq a0 a1) h
def HW (a0:Option (List bn))(a1:bn):Option ((Option (List bn))×Bool):=
 qa (bu (Bs a0 a1) (Gh,En,0,En)) fun d40=>
 cond d40.2.2.1
  (I (d40.1,d40.2.1))
  (cond (decide (0<a1.n))
   (cond d40.2.1
    (qa (bB d40.1 [a1]) fun sj=>
    I (sj,Gd))
    (cond d40.1.isNone
     (qa (bB d40.1 [a1]) fun Jk=>
     I (Jk,Gd))
     (Gh)))
   (I (d40.1,d40.2.1)))
theorem ze1 {a0 a1 r}(h:HW a0 a1=I r):qc pr (X pr) 259 [sl 2 bp a0,aN a1]=I (sl 2 bp r.1,r.2):=by
 unfold HW at h
 refine kg xj ?_
 repeat' first|(replace h:=qb h;obtain⟨d,g,h⟩:=h;with_reducible first|replace g:=wJ g|(replace g:=jug a0 a1 g;dsimp only[Nq,Nr,zf]at g h)|skip)|(replace h:=qd h;rcases h with⟨g,h⟩|⟨g,h⟩)
 all_goals (cases h<;>(simp only[go_sem,seval,xj, *];exact⟨_,rfl⟩))
def Bt (a0:Option (List jc))(a1:jc)(s0:(Option (List jc))×Bool×Int×Bool):Option (((Option (List jc))×Bool×Int×Bool)⊕(((Option (List jc))×Bool×Bool×Int))):=
 cond (decide (s0.2.2.1<((a0.getD []).length:Int)))
  (qa (qr (a0.getD []) s0.2.2.1) fun v22=>
  cond (decide (v22.k=a1.k))
   (cond s0.2.2.2
    (qa (bB s0.1 [a1]) fun v26=>
    I (.inl (v26,Gd,qe .i64 (s0.2.2.1+1),Gd)))
    (cond s0.1.isNone
     (qa (bB s0.1 [a1]) fun ic=>
     I (.inl (ic,Gd,qe .i64 (s0.2.2.1+1),Gd)))
     (Gh)))
   (cond s0.2.2.2
    (qa (bB s0.1 [v22]) fun lu=>
    I (.inl (lu,s0.2.1,qe .i64 (s0.2.2.1+1),Gd)))
    (cond s0.1.isNone
     (qa (bB s0.1 [v22]) fun cM=>
     I (.inl (cM,s0.2.1,qe .i64 (s0.2.2.1+1),Gd)))
     (Gh))))
  (I (.inr (s0.1,s0.2.2.2,s0.2.1,s0.2.2.1)))
def Nt (a0:Option (List jc))(a1:jc)(s0:(Option (List jc))×Bool×Int×Bool):aY:=⟨[(0,sl 3 jb a0,En),(3,.ai (aT a1),En),(5,sl 3 jb s0.1,s0.2.2.2),(6,.bool s0.2.1,En),(7,Iv s0.2.2.1,En)],[]⟩
def Nu (a0:Option (List jc))(a1:jc)(d:((Option (List jc))×Bool×Bool×Int)):jf×aY:=(.exit 0,⟨[(0,sl 3 jb a0,En),(3,.ai (aT a1),En),(5,sl 3 jb d.1,d.2.1),(6,.bool d.2.2.1,En),(7,Iv d.2.2.2,En),(11,.bool En,En)],[]⟩)
theorem jxz (a0:Option (List jc))(a1:jc)(s0:(Option (List jc))×Bool×Int×Bool)(r)(h:Bt a0 a1 s0=I r):jw pr Nv (Nt a0 a1) (Nu a0 a1) s0 r:=by
 unfold Bt at h
 repeat' first|(replace h:=qb h;obtain⟨d,g,h⟩:=h;with_reducible first|replace g:=yS g|skip)|(replace h:=qd h;rcases h with⟨g,h⟩|⟨g,h⟩)
 all_goals (cases h<;>((first|refine qw ?_|refine jm ?_);simp only[go_sem,seval,Nv,Nt,jg,Nu, *]<;>rfl))
theorem jru (a0:Option (List jc))(a1:jc){s0 d}(h:bu (Bt a0 a1) s0=I d):X pr (.loop Nv) (Nt a0 a1 s0)=I (Nu a0 a1 d):=zc (jxz a0 a1) h
def f260 (a0:Option (List jc))(a1:jc):Option ((Option (List jc))×Bool):=
 qa (bu (Bt a0 a1) (Gh,En,0,En)) fun d37=>
 cond d37.2.2.1
  (I (d37.1,d37.2.1))
  (cond d37.2.1
   (qa (bB d37.1 [a1]) fun du=>
   I (du,Gd))
   (cond d37.1.isNone
    (qa (bB d37.1 [a1]) fun pj=>
    I (pj,Gd))
    (Gh)))
theorem zcx {a0 a1 r}(h:f260 a0 a1=I r):qc pr (X pr) 260 [sl 3 jb a0,aT a1]=I (sl 3 jb r.1,r.2):=by
 unfold f260 at h
 refine kg xk ?_
 repeat' first|(replace h:=qb h;obtain⟨d,g,h⟩:=h;with_reducible first|replace g:=yS g|(replace g:=jru a0 a1 g;dsimp only[Nt,Nu,zf]at g h)|skip)|(replace h:=qd h;rcases h with⟨g,h⟩|⟨g,h⟩)
 all_goals (cases h<;>(simp only[go_sem,seval,xk, *];exact⟨_,rfl⟩))
def Bu (a0:Option (List bn))(a1:List UInt8)(a2:Int)(s0:(Option (List bn))×Bool×Int×Bool):Option (((Option (List bn))×Bool×Int×Bool)⊕(((Option (List bn))×Bool×Bool×Int))):=
 cond (decide (s0.2.2.1<((a0.getD []).length:Int)))
  (qa (qr (a0.getD []) s0.2.2.1) fun v22=>
  cond (decide (v22.k=a1))
   (cond s0.2.2.2
    (qa (bB s0.1 [⟨v22.k,qe .i64 (v22.n+a2)⟩]) fun v26=>
    I (.inl (v26,Gd,qe .i64 (s0.2.2.1+1),Gd)))
    (cond s0.1.isNone
     (qa (bB s0.1 [⟨v22.k,qe .i64 (v22.n+a2)⟩]) fun ic=>
     I (.inl (ic,Gd,qe .i64 (s0.2.2.1+1),Gd)))
     (Gh)))
   (cond s0.2.2.2
    (qa (bB s0.1 [v22]) fun lu=>
    I (.inl (lu,s0.2.1,qe .i64 (s0.2.2.1+1),Gd)))
    (cond s0.1.isNone
     (qa (bB s0.1 [v22]) fun cM=>
     I (.inl (cM,s0.2.1,qe .i64 (s0.2.2.1+1),Gd)))
     (Gh))))
  (I (.inr (s0.1,s0.2.2.2,s0.2.1,s0.2.2.1)))
def Ci (a0:Option (List bn))(a1:List UInt8)(a2:Int)(s0:(Option (List bn))×Bool×Int×Bool):aY:=⟨[(0,sl 2 bp a0,En),(1,.str a1,En),(2,Iv a2,En),(7,sl 2 bp s0.1,s0.2.2.2),(8,.bool s0.2.1,En),(9,Iv s0.2.2.1,En)],[]⟩
def Jl (a0:Option (List bn))(a1:List UInt8)(a2:Int)(d:((Option (List bn))×Bool×Bool×Int)):jf×aY:=(.exit 0,⟨[(0,sl 2 bp a0,En),(1,.str a1,En),(2,Iv a2,En),(7,sl 2 bp d.1,d.2.1),(8,.bool d.2.2.1,En),(9,Iv d.2.2.2,En),(14,.bool En,En)],[]⟩)
theorem jvh (a0:Option (List bn))(a1:List UInt8)(a2:Int)(s0:(Option (List bn))×Bool×Int×Bool)(r)(h:Bu a0 a1 a2 s0=I r):jw pr Jm (Ci a0 a1 a2) (Jl a0 a1 a2) s0 r:=by
 unfold Bu at h
 repeat' first|(replace h:=qb h;obtain⟨d,g,h⟩:=h;with_reducible first|replace g:=wJ g|skip)|(replace h:=qd h;rcases h with⟨g,h⟩|⟨g,h⟩)
 all_goals (cases h<;>(first|(refine qw ?_;simp only[go_sem,seval,Jm,Ci,jg,Jl, *]<;>rfl)|(refine q8c ?_ rfl (by first|simp only[go_sem,seval,Ci]|rfl) (by first|simp only[go_sem,seval,Ci]|rfl);simp only[go_sem,seval,Jm,Ci,jg,Jl, *];exact⟨_,rfl⟩)))
theorem jtg (a0:Option (List bn))(a1:List UInt8)(a2:Int){s0 d}(h:bu (Bu a0 a1 a2) s0=I d):X pr (.loop Jm) (Ci a0 a1 a2 s0)=I (Jl a0 a1 a2 d):=zc (jvh a0 a1 a2) h
def HX (a0:Option (List bn))(a1:List UInt8)(a2:Int):Option ((Option (List bn))×Bool):=
 qa (bu (Bu a0 a1 a2) (Gh,En,0,En)) fun d37=>
 cond d37.2.2.1
  (I (d37.1,d37.2.1))
  (cond d37.2.1
   (qa (bB d37.1 [⟨a1,a2⟩]) fun du=>
   I (du,Gd))
   (cond d37.1.isNone
    (qa (bB d37.1 [⟨a1,a2⟩]) fun pj=>
    I (pj,Gd))
    (Gh)))
theorem zft {a0 a1 a2 r}(h:HX a0 a1 a2=I r):qc pr (X pr) 298 [sl 2 bp a0,.str a1,Iv a2]=I (sl 2 bp r.1,r.2):=by
 unfold HX at h
 refine kg xl ?_
 repeat' first|(replace h:=qb h;obtain⟨d,g,h⟩:=h;with_reducible first|replace g:=wJ g|(replace g:=jtg a0 a1 a2 g;dsimp only[Ci,Jl,zf]at g h)|skip)|(replace h:=qd h;rcases h with⟨g,h⟩|⟨g,h⟩)
 all_goals (cases h<;>(simp only[go_sem,seval,xl, *];exact⟨_,rfl⟩))
def rQ (a0:ak)(a1:GEv):Option (ak×Int):=
 qa (qr (a1.names.getD []) 0) fun v1=>
 cond (decide (a1.kind=([108,111,116]:List UInt8)))
  (qa (wM a0 v1) fun v4=>
  cond (decide (0≤v4))
   (I (a0,9))
   (qa (qr (a1.values.getD []) 1) fun v7=>
   qa (f88 v7 1 10000) fun v9=>
   cond v9
    (I (a0,3))
    (cond (decide (64≤((a0.au.getD []).length:Int)))
     (I (a0,5))
     (qa (bB (I []) (a0.au.getD [])) fun eU=>
     qa (qr (a1.names.getD []) 1) fun fJ=>
     qa (bB eU [⟨v1,fJ,v7,v7,En⟩]) fun gC=>
     I (⟨a0.day,gC,a0.ae,a0.units⟩,0)))))
  (cond (decide (a1.kind=([112,114,111,100,117,99,116]:List UInt8)))
   (qa (wN a0 v1) fun v20=>
   cond (decide (0≤v20))
    (I (a0,9))
    (cond (decide (16≤((a0.ae.getD []).length:Int)))
     (I (a0,5))
     (qa (bB (I []) (a0.ae.getD [])) fun v24=>
     qa (bB v24 [⟨v1,Gh,Gh,Gh⟩]) fun v26=>
     I (⟨a0.day,a0.au,v26,a0.units⟩,0))))
   (qa (qr (a1.names.getD []) 1) fun v28=>
   qa (wN a0 v28) fun v30=>
   cond (decide (v30<0))
    (I (a0,10))
    (qa (Bg a0 v1) fun xm=>
    cond (decide (0≤xm))
     (I (a0,9))
     (qa (qr (a0.ae.getD []) v30) fun zX=>
     cond (decide (((zX.aH.getD []).length:Int)=0))
      (I (a0,32))
      (cond (decide (256≤((a0.units.getD []).length:Int)))
       (I (a0,5))
       (qa (bB (I []) (a0.units.getD [])) fun v40=>
       qa (bB v40 [⟨v1,v28,((zX.aH.getD []).length:Int),Gh,Gh,[],En,0⟩]) fun Yb=>
       I (⟨a0.day,a0.au,a0.ae,Yb⟩,0)))))))
theorem zdv {a0 a1 r}(h:rQ a0 a1=I r):qc pr (X pr) 199 [aR a0,aE a1]=I (.aJ [aR r.1,Iv r.2],En):=by
 unfold rQ at h
 refine zh xn ?_
 repeat' first|(replace h:=qb h;obtain⟨d,g,h⟩:=h; (with_reducible first|replace g:=Jn g|replace g:=Yc g|replace g:=Nw g|replace g:=Yd g|replace g:=LJ g|replace g:=Tt g|replace g:=Tv g|skip);try dsimp only[zf,lR,Gm,z7,yl,jd,qu,bD,jl,vev,bp,jb,yf,aE,aR,aU,aL,aP,aD]at g)|(replace h:=qd h;rcases h with⟨g,h⟩|⟨g,h⟩)
 all_goals (cases h<;>(simp only[go_sem,seval,xn,jg,kw, *];exact⟨_,rfl⟩))
end Go.Z
namespace Go.Z
open Go Go.Abs Go.W
def Bv (a1:List UInt8)(dU:Int)(dM:List UInt8)(xp:List UInt8)(aX:Int)(aV:Option (List je))(aQ:Option (List aC))(aF:Option (List bg)):Option (Option (List aC)):=
 qa (oj (⟨aX,aV,aQ,aF⟩) a1) fun v1=>
 qa (TP aQ v1 dU dM xp) fun v3=>
 I v3
theorem j3x {a1 dU dM xp aX aV aQ aF x1 x2 x3 r}(h:Bv a1 dU dM xp aX aV aQ aF=I r):qo pr (X pr) 212 [.ptr 0 0,.str a1,.fn (.func 213) [] [.ai (Iv dU),.ai (.fn (.func 211) [] [.ai (.str dM)]),.ai (.str xp)]] [kR aX aV aQ aF,x1,x2,x3]=I (.aJ [],En,[kR aX aV r aF,x1,x2,x3]):=by
 unfold Bv at h
 rw[ql (show pr.bO 212=I nI from rfl) (by simp)]
 repeat' first|(replace h:=qb h;obtain⟨d,g,h⟩:=h;with_reducible first|replace g:=vT g|replace g:=jjl g|skip)|(replace h:=qd h;rcases h with⟨g,h⟩|⟨g,h⟩)
 all_goals (cases h<;>(simp only[go_sem,seval,nI, *]<;>rfl))
def Ek (a1:List UInt8)(dU:jc)(dM:jc)(aX:Int)(aV:Option (List je))(aQ:Option (List aC))(aF:Option (List bg)):Option (Option (List aC)):=
 qa (oj (⟨aX,aV,aQ,aF⟩) a1) fun v1=>
 qa (TQ aQ v1 dU dM) fun v3=>
 I v3
theorem j12 {a1 dU dM aX aV aQ aF x1 x2 x3 r}(h:Ek a1 dU dM aX aV aQ aF=I r):qo pr (X pr) 212 [.ptr 0 0,.str a1,.fn (.func 219) [] [.ai (aT dU),.ai (.fn (.func 217) [] [.ai (aT dM)])]] [kR aX aV aQ aF,x1,x2,x3]=I (.aJ [],En,[kR aX aV r aF,x1,x2,x3]):=by
 unfold Ek at h
 obtain⟨v1,h2,h⟩:=qb h
 have sQ:qc pr (X pr) 161 [aG aX aV aQ aF,.str a1]=I (Iv v1,En):=vT h2
 obtain⟨v3,h4,h⟩:=qb h
 have Cj:qc pr (X pr) 221 [sl 4 qu aQ,Iv v1,.fn (.func 270) [] [.ai (.fn (.func 219) [] [.ai (aT dU),.ai (.fn (.func 217) [] [.ai (aT dM)])])]]=I (sl 4 qu v3,En):=jjw h4
 have hr:v3=r:=I.inj h
 subst hr
 rw[ql (show pr.bO 212=I nI from rfl) (by simp)]
 simp only[go_sem,seval,nI,sQ,Cj]<;>rfl
def HZ (a1:GEv)(aX:Int)(aV:Option (List je))(aQ:Option (List aC))(aF:Option (List bg)):Option (Int×(Option (List je))×Bool):=
 qa (qr (a1.names.getD []) 0) fun v1=>
 qa (f64 (⟨aX,aV,aQ,aF⟩) v1) fun v3=>
 qa (f48 (decide (0≤v3)) 9) fun v5=>
 qa (qr (a1.values.getD []) 1) fun v7=>
 qa (f60 v7 1 10000) fun v9=>
 qa (f48 (decide (64≤((aV.getD []).length:Int))) 5) fun v11=>
 qa (f46 (I [v5,v9,v11])) fun eU=>
 cond (decide (eU=0))
  (qa (qr (a1.names.getD []) 1) fun ea=>
  qa (LY aV (⟨v1,ea,v7,v7,En⟩)) fun gV=>
  I (0,gV,Gd))
  (I (eU,aV,En))
theorem zib {a1 aX aV aQ aF x1 x2 x3 r}(h:HZ a1 aX aV aQ aF=I r):qo pr (X pr) 168 [.ptr 0 0,aE a1] [kR aX aV aQ aF,x1,x2,x3]=I (Iv r.1,En,[kS aX r.2.1 r.2.2 aQ En aF En,x1,x2,x3]):=by
 unfold HZ at h
 rw[ql (show pr.bO 168=I ti from rfl) (by simp)]
 repeat' first|(replace h:=qb h;obtain⟨d,g,h⟩:=h; (with_reducible first|replace g:=E2 g|replace g:=fK g|replace g:=Jo g|replace g:=lf g|replace g:=zed g|skip);try dsimp only[zf,lR,Gm,z7,yl,jd,qu,bD,jl,vev,bp,jb,yf,aE,aR,aU,aL,aP,aD]at g)|(replace h:=qd h;rcases h with⟨g,h⟩|⟨g,h⟩)
 all_goals (cases h<;>(simp only[go_sem,seval,ti,jg, *]<;>rfl))
def f169 (a1:GEv)(aX:Int)(aV:Option (List je))(aQ:Option (List aC))(aF:Option (List bg)):Option (Int×(Option (List aC))×Bool):=
 qa (qr (a1.names.getD []) 0) fun v1=>
 qa (oj (⟨aX,aV,aQ,aF⟩) v1) fun v3=>
 qa (f48 (decide (0≤v3)) 9) fun v5=>
 qa (f48 (decide (16≤((aQ.getD []).length:Int))) 5) fun v7=>
 qa (f46 (I [v5,v7])) fun v9=>
 cond (decide (v9=0))
  (qa (LZ aQ (⟨v1,Gh,Gh,Gh⟩)) fun v12=>
  I (0,v12,Gd))
  (I (v9,aQ,En))
theorem zfr {a1 aX aV aQ aF x1 x2 x3 r}(h:f169 a1 aX aV aQ aF=I r):qo pr (X pr) 169 [.ptr 0 0,aE a1] [kR aX aV aQ aF,x1,x2,x3]=I (Iv r.1,En,[kS aX aV En r.2.1 r.2.2 aF En,x1,x2,x3]):=by
 unfold f169 at h
 rw[ql (show pr.bO 169=I tj from rfl) (by simp)]
 repeat' first|(replace h:=qb h;obtain⟨d,g,h⟩:=h; (with_reducible first|replace g:=vT g|replace g:=fK g|replace g:=lf g|replace g:=zb5 g|skip);try dsimp only[zf,lR,Gm,z7,yl,jd,qu,bD,jl,vev,bp,jb,yf,aE,aR,aU,aL,aP,aD]at g)|(replace h:=qd h;rcases h with⟨g,h⟩|⟨g,h⟩)
 all_goals (cases h<;>(simp only[go_sem,seval,tj,jg, *]<;>rfl))
def f170 (a1:GEv)(aX:Int)(aV:Option (List je))(aQ:Option (List aC))(aF:Option (List bg)):Option (Int×(Option (List aC))):=
 qa (qr (a1.names.getD []) 1) fun v1=>
 qa (qr (a1.values.getD []) 1) fun v3=>
 qa (qr (a1.names.getD []) 0) fun v5=>
 qa (oj (⟨aX,aV,aQ,aF⟩) v5) fun v7=>
 qa (qr (aQ.getD []) v7) fun v9=>
 qa (f60 v3 0 10000) fun v11=>
 cond (decide (0<v3))
  (qa (HN v9.dn v1) fun eu=>
  cond eu
   (qa (f48 En 5) fun gC=>
   qa (f46 (I [v11,gC])) fun nJ=>
   cond (decide (nJ=0))
    (qa (Bv v5 v3 v1 v1 aX aV aQ aF) fun v22=>
    I (0,v22))
    (I (nJ,aQ)))
   (qa (f48 (decide (16≤((v9.dn.getD []).length:Int))) 5) fun v24=>
   qa (f46 (I [v11,v24])) fun v26=>
   cond (decide (v26=0))
    (qa (Bv v5 v3 v1 v1 aX aV aQ aF) fun ic=>
    I (0,ic))
    (I (v26,aQ))))
  (qa (f48 En 5) fun v31=>
  qa (f46 (I [v11,v31])) fun xm=>
  cond (decide (xm=0))
   (qa (Bv v5 v3 v1 v1 aX aV aQ aF) fun zX=>
   I (0,zX))
   (I (xm,aQ)))
theorem zke {a1 aX aV aQ aF x1 x2 x3 r}(h:f170 a1 aX aV aQ aF=I r):qo pr (X pr) 170 [.ptr 0 0,aE a1] [kR aX aV aQ aF,x1,x2,x3]=I (Iv r.1,En,[kR aX aV r.2 aF,x1,x2,x3]):=by
 unfold f170 at h
 rw[ql (show pr.bO 170=I tm from rfl) (by simp)]
 repeat' first|(replace h:=qb h;obtain⟨d,g,h⟩:=h; (with_reducible first|replace g:=vT g|replace g:=Jo g|replace g:=j6j g|replace g:=fK g|replace g:=lf g|replace g:=j3x (x1:=x1) (x2:=x2) (x3:=x3) g|skip);try dsimp only[zf,lR,Gm,z7,yl,jd,qu,bD,jl,vev,bp,jb,yf,aE,aR,aU,aL,aP,aD]at g)|(replace h:=qd h;rcases h with⟨g,h⟩|⟨g,h⟩)
 all_goals (cases h<;>(simp only[go_sem,seval,tm,jg, *]<;>rfl))
def f171 (a1:GEv)(aX:Int)(aV:Option (List je))(aQ:Option (List aC))(aF:Option (List bg)):Option (Int×(Option (List aC))):=
 qa (qr (a1.names.getD []) 1) fun v1=>
 qa (qr (a1.values.getD []) 1) fun v3=>
 qa (qr (a1.values.getD []) 2) fun v5=>
 qa (qr (a1.names.getD []) 0) fun v7=>
 qa (oj (⟨aX,aV,aQ,aF⟩) v7) fun v9=>
 qa (qr (aQ.getD []) v9) fun v11=>
 qa (f48 (decide (v5<v3)) 11) fun eU=>
 qa (HR v11.dt (⟨v1,v3,v5⟩)) fun fJ=>
 cond fJ
  (qa (f48 En 5) fun gV=>
  qa (f46 (I [eU,gV])) fun v20=>
  cond (decide (v20=0))
   (qa (Ek v7 (⟨v1,v3,v5⟩) (⟨v1,v3,v5⟩) aX aV aQ aF) fun v23=>
   I (0,v23))
   (I (v20,aQ)))
  (qa (f48 (decide (16≤((v11.dt.getD []).length:Int))) 5) fun v25=>
  qa (f46 (I [eU,v25])) fun tn=>
  cond (decide (tn=0))
   (qa (Ek v7 (⟨v1,v3,v5⟩) (⟨v1,v3,v5⟩) aX aV aQ aF) fun v30=>
   I (0,v30))
   (I (tn,aQ)))
theorem zjm {a1 aX aV aQ aF x1 x2 x3 r}(h:f171 a1 aX aV aQ aF=I r):qo pr (X pr) 171 [.ptr 0 0,aE a1] [kR aX aV aQ aF,x1,x2,x3]=I (Iv r.1,En,[kR aX aV r.2 aF,x1,x2,x3]):=by
 unfold f171 at h
 rw[ql (show pr.bO 171=I tq from rfl) (by simp)]
 repeat' first|(replace h:=qb h;obtain⟨d,g,h⟩:=h; (with_reducible first|replace g:=vT g|replace g:=fK g|replace g:=j19 g|replace g:=lf g|replace g:=j12 (x1:=x1) (x2:=x2) (x3:=x3) g|skip);try dsimp only[zf,lR,Gm,z7,yl,jd,qu,bD,jl,vev,bp,jb,yf,aE,aR,aU,aL,aP,aD]at g)|(replace h:=qd h;rcases h with⟨g,h⟩|⟨g,h⟩)
 all_goals (cases h<;>(simp only[go_sem,seval,tq,jg, *]<;>rfl))
def H6 (a1:GEv)(aX:Int)(aV:Option (List je))(aQ:Option (List aC))(aF:Option (List bg)):Option (Int×(Option (List aC))):=
 qa (qr (a1.names.getD []) 0) fun v1=>
 qa (oj (⟨aX,aV,aQ,aF⟩) v1) fun v3=>
 qa (qr (aQ.getD []) v3) fun v5=>
 qa (f48 (decide (((v5.dn.getD []).length:Int)=0)) 12) fun v7=>
 qa (f48 (decide (100≤((v5.aH.getD []).length:Int))) 5) fun v9=>
 qa (f46 (I [v7,v9])) fun v11=>
 cond (decide (v11=0))
  (qa (L8 aQ v3) fun eu=>
  I (0,eu))
  (I (v11,aQ))
theorem zes {a1 aX aV aQ aF x1 x2 x3 r}(h:H6 a1 aX aV aQ aF=I r):qo pr (X pr) 172 [.ptr 0 0,aE a1] [kR aX aV aQ aF,x1,x2,x3]=I (Iv r.1,En,[kR aX aV r.2 aF,x1,x2,x3]):=by
 unfold H6 at h
 rw[ql (show pr.bO 172=I tr from rfl) (by simp)]
 repeat' first|(replace h:=qb h;obtain⟨d,g,h⟩:=h; (with_reducible first|replace g:=vT g|replace g:=fK g|replace g:=lf g|replace g:=jjr g|skip);try dsimp only[zf,lR,Gm,z7,yl,jd,qu,bD,jl,vev,bp,jb,yf,aE,aR,aU,aL,aP,aD]at g)|(replace h:=qd h;rcases h with⟨g,h⟩|⟨g,h⟩)
 all_goals (cases h<;>(simp only[go_sem,seval,tr,jg, *]<;>rfl))
def H0 (a1:GEv)(aX:Int)(aV:Option (List je))(aQ:Option (List aC))(aF:Option (List bg)):Option (Int×(Option (List bg))×Bool):=
 qa (qr (a1.names.getD []) 1) fun v1=>
 qa (oj (⟨aX,aV,aQ,aF⟩) v1) fun v3=>
 qa (qr (aQ.getD []) v3) fun v5=>
 qa (Ea v5) fun v7=>
 qa (qr (a1.names.getD []) 0) fun v9=>
 qa (f76 (⟨aX,aV,aQ,aF⟩) v9) fun v11=>
 qa (f48 (decide (0≤v11)) 9) fun eU=>
 qa (f48 (decide (v7=0)) 32) fun fJ=>
 qa (f48 (decide (256≤((aF.getD []).length:Int))) 5) fun gC=>
 qa (f46 (I [eU,fJ,gC])) fun nJ=>
 cond (decide (nJ=0))
  (qa (f225 aF (⟨v9,v1,v7,Gh,Gh,[],En,0⟩)) fun v22=>
  I (0,v22,Gd))
  (I (nJ,aF,En))
theorem zh7 {a1 aX aV aQ aF x1 x2 x3 r}(h:H0 a1 aX aV aQ aF=I r):qo pr (X pr) 173 [.ptr 0 0,aE a1] [kR aX aV aQ aF,x1,x2,x3]=I (Iv r.1,En,[kS aX aV En aQ En r.2.1 r.2.2,x1,x2,x3]):=by
 unfold H0 at h
 rw[ql (show pr.bO 173=I tu from rfl) (by simp)]
 repeat' first|(replace h:=qb h;obtain⟨d,g,h⟩:=h; (with_reducible first|replace g:=vT g|replace g:=jrf g|replace g:=zY g|replace g:=fK g|replace g:=lf g|replace g:=ziu g|skip);try dsimp only[zf,lR,Gm,z7,yl,jd,qu,bD,jl,vev,bp,jb,yf,aE,aR,aU,aL,aP,aD]at g)|(replace h:=qd h;rcases h with⟨g,h⟩|⟨g,h⟩)
 all_goals (cases h<;>(simp only[go_sem,seval,tu,jg, *]<;>rfl))
def Ic (a1:GEv)(aX:Int)(aV:Option (List je))(aQ:Option (List aC))(aF:Option (List bg)):Option (Int×(Option (List bg))):=
 qa (qr (a1.names.getD []) 0) fun v1=>
 qa (f76 (⟨aX,aV,aQ,aF⟩) v1) fun v3=>
 qa (qr (aF.getD []) v3) fun v5=>
 qa (pQ (⟨aX,aV,aQ,aF⟩) v5) fun v7=>
 qa (HS v7.aA a1) fun v9=>
 qa (f48 v5.ar 21) fun v11=>
 qa (f48 (!v9) 7) fun eU=>
 qa (f48 (decide (64≤((v5.results.getD []).length:Int))) 5) fun fJ=>
 qa (f46 (I [v11,eU,fJ])) fun gC=>
 cond (decide (gC=0))
  (qa (TX aF v3 a1) fun v20=>
  I (0,v20))
  (I (gC,aF))
theorem zd1 {a1 aX aV aQ aF x1 x2 x3 r}(h:Ic a1 aX aV aQ aF=I r):qo pr (X pr) 175 [.ptr 0 0,aE a1] [kR aX aV aQ aF,x1,x2,x3]=I (Iv r.1,En,[kR aX aV aQ r.2,x1,x2,x3]):=by
 unfold Ic at h
 rw[ql (show pr.bO 175=I tv from rfl) (by simp)]
 repeat' first|(replace h:=qb h;obtain⟨d,g,h⟩:=h; (with_reducible first|replace g:=zY g|replace g:=Nx g|replace g:=j8g g|replace g:=fK g|replace g:=lf g|replace g:=jjn g|skip);try dsimp only[zf,lR,Gm,z7,yl,jd,qu,bD,jl,vev,bp,jb,yf,aE,aR,aU,aL,aP,aD]at g)|(replace h:=qd h;rcases h with⟨g,h⟩|⟨g,h⟩)
 all_goals (cases h<;>(simp only[go_sem,seval,tv,jg, *]<;>rfl))
def H9 (a1:GEv)(aX:Int)(aV:Option (List je))(aQ:Option (List aC))(aF:Option (List bg)):Option (Int×(Option (List bg))):=
 qa (qr (a1.names.getD []) 0) fun v1=>
 qa (f76 (⟨aX,aV,aQ,aF⟩) v1) fun v3=>
 qa (qr (aF.getD []) v3) fun v5=>
 qa (D8 (⟨aX,aV,aQ,aF⟩) v5) fun v7=>
 qa (f48 v5.ar 21) fun v9=>
 qa (f48 (decide (v5.version=v7)) 32) fun v11=>
 qa (f46 (I [v9,v11])) fun eU=>
 cond (decide (eU=0))
  (qa (TU aF v3 v7) fun ea=>
  I (0,ea))
  (I (eU,aF))
theorem zef {a1 aX aV aQ aF x1 x2 x3 r}(h:H9 a1 aX aV aQ aF=I r):qo pr (X pr) 176 [.ptr 0 0,aE a1] [kR aX aV aQ aF,x1,x2,x3]=I (Iv r.1,En,[kR aX aV aQ r.2,x1,x2,x3]):=by
 unfold H9 at h
 rw[ql (show pr.bO 176=I tw from rfl) (by simp)]
 repeat' first|(replace h:=qb h;obtain⟨d,g,h⟩:=h; (with_reducible first|replace g:=zY g|replace g:=jrg g|replace g:=fK g|replace g:=lf g|replace g:=jjd g|skip);try dsimp only[zf,lR,Gm,z7,yl,jd,qu,bD,jl,vev,bp,jb,yf,aE,aR,aU,aL,aP,aD]at g)|(replace h:=qd h;rcases h with⟨g,h⟩|⟨g,h⟩)
 all_goals (cases h<;>(simp only[go_sem,seval,tw,jg, *]<;>rfl))
def Ih (a1:GEv)(aX:Int)(aV:Option (List je))(aQ:Option (List aC))(aF:Option (List bg)):Option (Int×(Option (List bg))):=
 qa (qr (a1.names.getD []) 0) fun v1=>
 qa (f76 (⟨aX,aV,aQ,aF⟩) v1) fun v3=>
 qa (qr (a1.names.getD []) 1) fun v5=>
 qa (f76 (⟨aX,aV,aQ,aF⟩) v5) fun v7=>
 qa (qr (aF.getD []) v3) fun v9=>
 qa (qr (aF.getD []) v7) fun v11=>
 qa (f48 (decide (v3=v7)) 9) fun eU=>
 cond (decide (v9.product=v11.product))
  (qa (f48 (!decide (v9.version=v11.version)) 30) fun ea=>
  cond v9.ar
   (qa (f48 Gd 21) fun nJ=>
   cond (decide (v9.partner=[]))
    (qa (f48 (!decide (v11.partner=[])) 35) fun v22=>
    qa (f46 (I [eU,ea,nJ,v22])) fun v24=>
    cond (decide (v24=0))
     (qa (vF aF v3 v11) fun tn=>
     qa (vG tn v7 (⟨v9.name,v9.product,v9.version,v9.uses,v9.results,v9.partner,Gd,v9.ah⟩)) fun ic=>
     I (0,ic))
     (I (v24,aF)))
    (qa (f48 Gd 35) fun v31=>
    qa (f46 (I [eU,ea,nJ,v31])) fun xm=>
    cond (decide (xm=0))
     (qa (vF aF v3 v11) fun zX=>
     qa (vG zX v7 (⟨v9.name,v9.product,v9.version,v9.uses,v9.results,v9.partner,Gd,v9.ah⟩)) fun tf=>
     I (0,tf))
     (I (xm,aF))))
   (qa (f48 v11.ar 21) fun v40=>
   cond (decide (v9.partner=[]))
    (qa (f48 (!decide (v11.partner=[])) 35) fun mN=>
    qa (f46 (I [eU,ea,v40,mN])) fun sj=>
    cond (decide (sj=0))
     (qa (vF aF v3 v11) fun Jk=>
     qa (vG Jk v7 (⟨v9.name,v9.product,v9.version,v9.uses,v9.results,v9.partner,En,v9.ah⟩)) fun v50=>
     I (0,v50))
     (I (sj,aF)))
    (qa (f48 Gd 35) fun XQ=>
    qa (f46 (I [eU,ea,v40,XQ])) fun EZ=>
    cond (decide (EZ=0))
     (qa (vF aF v3 v11) fun Ny=>
     qa (vG Ny v7 (⟨v9.name,v9.product,v9.version,v9.uses,v9.results,v9.partner,En,v9.ah⟩)) fun v59=>
     I (0,v59))
     (I (EZ,aF)))))
  (qa (f48 Gd 30) fun sk=>
  cond v9.ar
   (qa (f48 Gd 21) fun v64=>
   cond (decide (v9.partner=[]))
    (qa (f48 (!decide (v11.partner=[])) 35) fun v67=>
    qa (f46 (I [eU,sk,v64,v67])) fun v69=>
    cond (decide (v69=0))
     (qa (vF aF v3 v11) fun v72=>
     qa (vG v72 v7 (⟨v9.name,v9.product,v9.version,v9.uses,v9.results,v9.partner,Gd,v9.ah⟩)) fun Ye=>
     I (0,Ye))
     (I (v69,aF)))
    (qa (f48 Gd 35) fun v76=>
    qa (f46 (I [eU,sk,v64,v76])) fun Nz=>
    cond (decide (Nz=0))
     (qa (vF aF v3 v11) fun v81=>
     qa (vG v81 v7 (⟨v9.name,v9.product,v9.version,v9.uses,v9.results,v9.partner,Gd,v9.ah⟩)) fun Yf=>
     I (0,Yf))
     (I (Nz,aF))))
   (qa (f48 v11.ar 21) fun v85=>
   cond (decide (v9.partner=[]))
    (qa (f48 (!decide (v11.partner=[])) 35) fun zV=>
    qa (f46 (I [eU,sk,v85,zV])) fun xg=>
    cond (decide (xg=0))
     (qa (vF aF v3 v11) fun v93=>
     qa (vG v93 v7 (⟨v9.name,v9.product,v9.version,v9.uses,v9.results,v9.partner,En,v9.ah⟩)) fun Yg=>
     I (0,Yg))
     (I (xg,aF)))
    (qa (f48 Gd 35) fun Yh=>
    qa (f46 (I [eU,sk,v85,Yh])) fun NA=>
    cond (decide (NA=0))
     (qa (vF aF v3 v11) fun Yi=>
     qa (vG Yi v7 (⟨v9.name,v9.product,v9.version,v9.uses,v9.results,v9.partner,En,v9.ah⟩)) fun Yj=>
     I (0,Yj))
     (I (NA,aF)))))
theorem zc7 {a1 aX aV aQ aF x1 x2 x3 r}(h:Ih a1 aX aV aQ aF=I r):qo pr (X pr) 177 [.ptr 0 0,aE a1] [kR aX aV aQ aF,x1,x2,x3]=I (Iv r.1,En,[kR aX aV aQ r.2,x1,x2,x3]):=by
 unfold Ih at h
 rw[ql (show pr.bO 177=I tz from rfl) (by simp)]
 repeat' first|(replace h:=qb h;obtain⟨d,g,h⟩:=h; (with_reducible first|replace g:=zY g|replace g:=fK g|replace g:=lf g|replace g:=jj4 g|replace g:=jkk g|skip);try dsimp only[zf,lR,Gm,z7,yl,jd,qu,bD,jl,vev,bp,jb,yf,aE,aR,aU,aL,aP,aD]at g)|(replace h:=qd h;rcases h with⟨g,h⟩|⟨g,h⟩)
 all_goals (cases h<;>(simp only[go_sem,seval,tz,jg, *]<;>rfl))
def H7 (a1:GEv)(aX:Int)(aV:Option (List je))(aQ:Option (List aC))(aF:Option (List bg)):Option (Int×(Option (List je))):=
 qa (qr (a1.names.getD []) 0) fun v1=>
 qa (f64 (⟨aX,aV,aQ,aF⟩) v1) fun v3=>
 qa (qr (aV.getD []) v3) fun v5=>
 cond v5.held
  (I (34,aV))
  (qa (TR aV v3) fun v8=>
  I (0,v8))
theorem zb3 {a1 aX aV aQ aF x1 x2 x3 r}(h:H7 a1 aX aV aQ aF=I r):qo pr (X pr) 178 [.ptr 0 0,aE a1] [kR aX aV aQ aF,x1,x2,x3]=I (Iv r.1,En,[kR aX r.2 aQ aF,x1,x2,x3]):=by
 unfold H7 at h
 rw[ql (show pr.bO 178=I tA from rfl) (by simp)]
 repeat' first|(replace h:=qb h;obtain⟨d,g,h⟩:=h;with_reducible first|replace g:=E2 g|replace g:=jje g|skip)|(replace h:=qd h;rcases h with⟨g,h⟩|⟨g,h⟩)
 all_goals (cases h<;>(simp only[go_sem,seval,tA,jg, *]<;>rfl))
def H8 (a1:GEv)(aX:Int)(aV:Option (List je))(aQ:Option (List aC))(aF:Option (List bg)):Option (Int×(Option (List je))):=
 qa (qr (a1.names.getD []) 0) fun v1=>
 qa (f64 (⟨aX,aV,aQ,aF⟩) v1) fun v3=>
 qa (qr (aV.getD []) v3) fun v5=>
 cond v5.held
  (qa (TS aV v3) fun v8=>
  I (0,v8))
  (I (20,aV))
theorem zd2 {a1 aX aV aQ aF x1 x2 x3 r}(h:H8 a1 aX aV aQ aF=I r):qo pr (X pr) 179 [.ptr 0 0,aE a1] [kR aX aV aQ aF,x1,x2,x3]=I (Iv r.1,En,[kR aX r.2 aQ aF,x1,x2,x3]):=by
 unfold H8 at h
 rw[ql (show pr.bO 179=I tB from rfl) (by simp)]
 repeat' first|(replace h:=qb h;obtain⟨d,g,h⟩:=h;with_reducible first|replace g:=E2 g|replace g:=jkm g|skip)|(replace h:=qd h;rcases h with⟨g,h⟩|⟨g,h⟩)
 all_goals (cases h<;>(simp only[go_sem,seval,tB,jg, *]<;>rfl))
def Ib (a1:GEv)(aX:Int)(aV:Option (List je))(aQ:Option (List aC))(aF:Option (List bg)):Option (Int×(Option (List bg))):=
 qa (qr (a1.names.getD []) 0) fun v1=>
 qa (f76 (⟨aX,aV,aQ,aF⟩) v1) fun v3=>
 qa (qr (aF.getD []) v3) fun v5=>
 cond v5.ar
  (qa (TW aF v3) fun v8=>
  I (0,v8))
  (I (20,aF))
theorem zjn {a1 aX aV aQ aF x1 x2 x3 r}(h:Ib a1 aX aV aQ aF=I r):qo pr (X pr) 181 [.ptr 0 0,aE a1] [kR aX aV aQ aF,x1,x2,x3]=I (Iv r.1,En,[kR aX aV aQ r.2,x1,x2,x3]):=by
 unfold Ib at h
 rw[ql (show pr.bO 181=I tC from rfl) (by simp)]
 repeat' first|(replace h:=qb h;obtain⟨d,g,h⟩:=h;with_reducible first|replace g:=zY g|replace g:=jj3 g|skip)|(replace h:=qd h;rcases h with⟨g,h⟩|⟨g,h⟩)
 all_goals (cases h<;>(simp only[go_sem,seval,tC,jg, *]<;>rfl))
end Go.Z
namespace Go.Z
open Go Go.Abs Go.W
def Ie (a1:GEv)(aX:Int)(aV:Option (List je))(aQ:Option (List aC))(aF:Option (List bg)):Option (Int×(Option (List je))×(Option (List bg))):=
 qa (qr (a1.names.getD []) 0) fun v1=>
 qa (f76 (⟨aX,aV,aQ,aF⟩) v1) fun v3=>
 qa (qr (a1.names.getD []) 1) fun v5=>
 qa (f64 (⟨aX,aV,aQ,aF⟩) v5) fun v7=>
 qa (qr (a1.values.getD []) 1) fun v9=>
 qa (qr (aF.getD []) v3) fun v11=>
 qa (qr (aV.getD []) v7) fun eU=>
 qa (pQ (⟨aX,aV,aQ,aF⟩) v11) fun fJ=>
 qa (HP fJ.aB eU) fun gC=>
 qa (f48 v11.ar 21) fun nJ=>
 qa (f48 (decide (v9=0)) 3) fun v21=>
 qa (f48 eU.held 34) fun v23=>
 qa (f48 (!gC) 7) fun v25=>
 qa (f48 (decide (eU.left<v9)) 4) fun tn=>
 qa (f46 (I [nJ,v21,v23,v25,tn])) fun ic=>
 cond (decide (ic=0))
  (qa (TY aV v7 v9) fun lu=>
  qa (zD v11.uses eU) fun NB=>
  cond (decide (0≤NB))
   (qa (qr (v11.uses.getD []) NB) fun v37=>
   qa (gv aF v3 (Eo ⟨eU.name,qe .i64 (v9+v37.n)⟩ eU)) fun us=>I (ic,lu,us))
   (qa (gv aF v3 (Eo ⟨eU.name,v9⟩ eU)) fun us=>I (ic,lu,us)))
  (I (ic,aV,aF))
theorem zct {a1 aX aV aQ aF x1 x2 x3 r}(h:Ie a1 aX aV aQ aF=I r):
  (r.1≠0∧r.2=(aV,aF)∧qo pr (X pr) 174 [.ptr 0 0,aE a1] [kR aX aV aQ aF,x1,x2,x3]=I (Iv r.1,En,[kR aX aV aQ aF,x1,x2,x3])) ∨
  (r.1=0∧∃(n:Nat) (b:bh) (cs:List (AVal×Bool)),qo pr (X pr) 174 [.ptr 0 0,aE a1] [kR aX aV aQ aF,x1,x2,x3]=I (Iv 0,En,[.cells [(Iv aX,En),(sl 5 jd r.2.1,En),(sl 4 qu aQ,En),(.ms 5 0 n,En)],x1,x2,x3,b,.cells cs])∧cs.map (·.1)=j9 bD (r.2.2.getD [])∧n=(r.2.2.getD []).length∧0<n):=by
 unfold Ie at h
 obtain⟨v1,h2,h⟩:=qb h
 obtain⟨v3,h4,h⟩:=qb h
 have Cj:qc pr (X pr) 76 [aG aX aV aQ aF,.str v1]=I (Iv v3,En):=zY h4
 obtain⟨v5,h6,h⟩:=qb h
 obtain⟨v7,h8,h⟩:=qb h
 have Yk:qc pr (X pr) 64 [aG aX aV aQ aF,.str v5]=I (Iv v7,En):=E2 h8
 obtain⟨v9,lZ,h⟩:=qb h
 obtain⟨v11,l3,h⟩:=qb h
 obtain⟨eU,oW,h⟩:=qb h
 obtain⟨fJ,nB,h⟩:=qb h
 have Ck:qc pr (X pr) 126 [aG aX aV aQ aF,aU v11]=I (aD fJ,En):=Nx nB
 obtain⟨gC,Jg,h⟩:=qb h
 have Cl:qc pr (X pr) 193 [sl 2 bp fJ.aB,.fn (.func 226) [] [.ai (aL eU)]]=I (.bool gC,En):=j56 Jg
 obtain⟨nJ,A4,h⟩:=qb h
 have Cm:qc pr (X pr) 48 [.bool v11.ar,Iv 21]=I (Iv nJ,En):=fK A4
 obtain⟨v21,Gx,h⟩:=qb h
 have Cn:qc pr (X pr) 48 [.bool (decide (v9=0)),Iv 3]=I (Iv v21,En):=fK Gx
 obtain⟨v23,Gy,h⟩:=qb h
 have Co:qc pr (X pr) 48 [.bool eU.held,Iv 34]=I (Iv v23,En):=fK Gy
 obtain⟨v25,XO,h⟩:=qb h
 have Cp:qc pr (X pr) 48 [.bool (!gC),Iv 7]=I (Iv v25,En):=fK XO
 obtain⟨tn,XP,h⟩:=qb h
 have Cq:qc pr (X pr) 48 [.bool (decide (eU.left<v9)),Iv 4]=I (Iv tn,En):=fK XP
 obtain⟨ic,Jh,h⟩:=qb h
 have Cr:qc pr (X pr) 46 [.list En 1 [Iv nJ,Iv v21,Iv v23,Iv v25,Iv tn]]=I (Iv ic,En):=lf Jh
 rcases qd h with⟨xf,h⟩|⟨xf,h⟩
 ·obtain⟨lu,Yl,h⟩:=qb h
  have Jp:qc pr (X pr) 227 [sl 5 jd aV,Iv v7,.fn (.func 228) [] [.ai (Iv v9)]]=I (sl 5 jd lu,En):=jli Yl
  obtain⟨NB,h35,h⟩:=qb h
  have Jq:qc pr (X pr) 230 [sl 2 bp v11.uses,.fn (.func 229) [] [.ai (aL eU)]]=I (Iv NB,En):=js5 h35
  rcases qd h with⟨Ym,h⟩|⟨Ym,h⟩
  ·obtain⟨v37,Yn,h⟩:=qb h
   obtain⟨us,hu,h⟩:=qb h
   cases h
   obtain⟨n,x,y,rfl,hl,hx,hy,rfl⟩:=zW hu
   obtain⟨cs,g1,g2⟩:=jsm (b0:=(kR aX lu aQ aF)) (b1:=x1) (b2:=x2) (di:=x3) hx hy
   have w:=jml hl (Gb.1 hx).1 g1
   simp only[qz2]at w
   refine .inr ⟨of_decide_eq_true xf,(aF.getD []).length,.cells [(.str eU.name,En),(Iv (qe .i64 (v9+v37.n)),En)],cs,?_,g2,by simp,by have:=(Gb.1 hx).1;omega⟩
   rw[ql (show pr.bO 174=I lg from rfl) (by simp)]
   simp only[go_sem,seval,lg,zj h2,Cj,zj h6,Yk,zj lZ,zj l3,zj oW,Ck,Cl,Cm,Cn,Co,Cp,Cq,Cr,xf,Jp,Jq,Ym,zj Yn,w,(show ∀n,below 5 (.ms 5 0 n)=En from fun _=>rfl),Hc,cond_false]
  ·obtain⟨us,hu,h⟩:=qb h
   cases h
   obtain⟨n,x,y,rfl,hl,hx,hy,rfl⟩:=zW hu
   obtain⟨cs,g1,g2⟩:=jsm (b0:=(kR aX lu aQ aF)) (b1:=x1) (b2:=x2) (di:=x3) hx hy
   have w:=jml hl (Gb.1 hx).1 g1
   simp only[qz2]at w
   refine .inr ⟨of_decide_eq_true xf,(aF.getD []).length,.cells [(.str eU.name,En),(Iv v9,En)],cs,?_,g2,by simp,by have:=(Gb.1 hx).1;omega⟩
   rw[ql (show pr.bO 174=I lg from rfl) (by simp)]
   simp only[go_sem,seval,lg,zj h2,Cj,zj h6,Yk,zj lZ,zj l3,zj oW,Ck,Cl,Cm,Cn,Co,Cp,Cq,Cr,xf,Jp,Jq,Ym,w,(show ∀n,below 5 (.ms 5 0 n)=En from fun _=>rfl),Hc,cond_false]
 ·cases h
  refine .inl ⟨of_decide_eq_false xf,rfl,?_⟩
  rw[ql (show pr.bO 174=I lg from rfl) (by simp)]
  simp only[go_sem,seval,lg,zj h2,Cj,zj h6,Yk,zj lZ,zj l3,zj oW,Ck,Cl,Cm,Cn,Co,Cp,Cq,Cr,xf]<;>rfl
end Go.Z
end
