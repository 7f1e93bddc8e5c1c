/- Chapter 10. -/
import Derived.Test.YtimdocpnkimlfaaGreatDoorW1
set_option linter.unusedVariables false
set_option linter.unusedSimpArgs false
set_option maxRecDepth 100000
noncomputable section
open Option renaming some→I,none→Gh
open Bool renaming false→En,true→Gd,and_self→Gp,false_and→Ha
open Nat renaming le_of_ble_eq_true→Ga,ble_eq_true_of_le→Gl,beq_refl→Gq,beq→Gw,blt_eq→G7
open List renaming getElem?_eq_some_iff→Gc,replicate→Gg,length_set→Gi,map→Gm,length_map→Gr,drop_eq_nil_of_le→Gs,take_of_length_le→Gx,nil_append→Gz,all→G6,append_nil→G8,take_zero→G9
namespace Go.Z
open Go Go.Abs Go.W
section
variable {p:j8}{xc:XC}{h0:Nat}{al:Option (List Nat)}{e:Env}{h:qh}{α:Type}
structure ph (f:α→AVal)(sz:Nat):Prop where
 len:∀x,(f x).flat.length=sz
 sc:∀x,(f x).flat.all qk=Gd
 ag:∀x,f x=.agg (f x).flat
 ref:∀x,(f x).flat.any KK=Gd
 big:1<sz
variable {f:α→AVal}{sz:Nat}
theorem jgv (E:ph f sz)(l:List α):(zb f l).all qk=Gd:=by
 induction l with
 |nil=>rfl
 |cons x l ih=>rw[wM,List.all_append,E.sc,ih];rfl
theorem q8a (E:ph f sz):∀(l:List α),mA sz l.length (zb f l)=l.map f
 | []=>rfl
 |x::l=>by
  have hb:Gw sz 1=En:=by
   have:=E.big
   cases h:Gw sz 1 with
   |false=>rfl
   |true=>have:=Nat.eq_of_beq_eq_true h;omega
  have hl:=E.len x
  show(bif Gw sz 1 then(zb f (x::l)).headD .undef else .agg ((zb f (x::l)).take sz))::mA sz l.length ((zb f (x::l)).drop sz)=_
  rw[hb,cond_false,wM,List.take_append_of_le_length (by omega),List.drop_append_of_le_length (by omega),Gx (by omega),Gs (by omega),Gz,q8a E l,←E.ag]
  rfl
theorem vY (E:ph f sz){l}(hl:0<l.length){cs}(hc:cs.map (·.1)=zb f l):MS (I cs) 0 l.length=I (.list En sz (l.map f)):=by
 have dK:cs.length=l.length*sz:=by rw[←Gr (f:=(·.1)),hc,G5 E.len]
 have hdiv:cs.length / l.length=sz:=by rw[dK];exact Nat.mul_div_cancel_left _ hl
 have XW:cs.any (fun c=>KK c.1)=Gd:=by
  cases l with
  |nil=>cases hl
  |cons x l=>
   have:(cs.map (·.1)).any KK=Gd:=by rw[hc,wM,List.any_append,E.ref];rfl
   rw[List.any_map]at this
   exact this
 have hr:Dq 0 l.length cs=Gd:=by
  have hb:Nat.blt 1 sz=Gd:=G7.mpr E.big
  rw[Dq,hdiv,hb,XW,dK,Gq,Gq];rfl
 unfold MS
 simp only[hr,cond_true,hdiv]
 rw[hc,q8a E]
theorem Cc {r n XX zero}(hz:zero.length=sz)(hs:zero.all qk=Gd)(h1:0<sz)(hn:n≤1073741824)(hb:XX≤4096){h'}(hh:aK h0 h r (.cells (cellsOf (Gg n zero).flatten))=I h'):
  vU h0 r sz XX zero h (I (Iv (n:Int))) (I (Iv (n:Int)))=I ⟨.ms (h0+r) 0 n,En,Gh,h'⟩:=by
 show(bif Gw n n&&Nat.ble n 1073741824&&Nat.ble XX 4096&&Gw zero.length sz&&Nat.blt 0 sz&&zero.all qk then _ else _)=_
 rw[Gq,Gl hn,Gl hb,hz,Gq,G7.mpr h1,hs]
 simp only[Gp,cond_true,hh]
 rfl
theorem Cd (E:ph f sz){b l cs}(hb:h[b]?=I (.cells cs))(hc:cs.length=(l.getD []).length*sz)(dE:zc h0 al b=Gd):
  wZ h0 al sz h (I (.ms b 0 (l.getD []).length)) (I (sl sz f l))=I ⟨Lv l,En,Gh,h.set b (.cells (bK f (l.getD [])))⟩:=by
 have lv:jw h b=I cs:=by rw[q61,hb];rfl
 have bw:=(Gc.1 hb).1
 have cN:Ae sz (l.getD []).length (sl sz f l)=I ((l.getD []).length,zb f (l.getD [])):=by
  cases l with
  |none=>simp[sl,Ae,zb]
  |some l=>
   show(bif Gw sz sz||(l.map f).isEmpty then I (min (l.map f).length l.length,((l.map f).take l.length).flatMap AVal.flat)else Gh)=_
   rw[Gq,Gr,Nat.min_self,Gx (by rw[Gr];exact Nat.le_refl _)]
   rfl
 have DE:(zb f (l.getD [])).length=(l.getD []).length*sz:=G5 E.len _
 have b6:jr cs 0 (zb f (l.getD []))=I (bK f (l.getD [])):=by
  unfold jr
  rw[jgv E,DE,hc,Gl (by omega)]
  simp only[Gp,cond_true,G9,Gz]
  rw[Gs (by rw[hc];omega),G8]
  rfl
 have bD:jo h b (.cells (bK f (l.getD [])))=I (h.set b (.cells (bK f (l.getD [])))):=by
  simp only[jo,G7.mpr bw,cond_true]
 show(bif zc h0 al b then(match jw h b with
   |some cs=>(match Ae sz (l.getD []).length (sl sz f l)with
    |some (n,vs)=>(match jr cs 0 vs with
     |some ez=>bif Gw vs.length (n*sz)then(match jo h b (.cells ez)with
      |some h'=>val h' (Iv n)
      |none=>Gh)else Gh
     |none=>Gh)
    |none=>Gh)
   |none=>Gh)else Gh)=_
 rw[dE,lv,cN]
 simp only[cond_true,b6,DE,Gq,bD]
 rfl
theorem vZ {b n i k}(hi:i<n):jY sz h (I (.ms b 0 n)) (I (.int k (i:Int)))=I ⟨.ptr b (i*sz),En,Gh,h⟩:=by
 have:idx n (.int k (i:Int))=I i:=by rw[vB];exact LO hi
 simp only[jY,this,Nat.zero_add]
 rfl
end
end Go.Z
set_option maxHeartbeats 4000000
namespace Go.Z
open Go Go.Abs Go.W
theorem gm:ph jb 5:=⟨fun _=>rfl,fun _=>rfl,fun _=>rfl,fun _=>rfl,by omega⟩
theorem pi:ph bm 2:=⟨fun _=>rfl,fun _=>rfl,fun _=>rfl,fun _=>rfl,by omega⟩
theorem sB:ph q9 3:=⟨fun _=>rfl,fun _=>rfl,fun _=>rfl,fun _=>rfl,by omega⟩
theorem cE:ph qu 4:=⟨fun _=>rfl,fun _=>by simp only[go_sem,seval,jcc]<;>simp only[G6,go_sem],fun _=>rfl,fun _=>rfl,by omega⟩
theorem ec:ph bj 8:=⟨fun _=>rfl,fun _=>by simp only[go_sem,seval,jlr]<;>simp only[G6,go_sem],fun _=>rfl,fun _=>rfl,by omega⟩
theorem zbz {j caps l i cs}(hlen:(l.getD []).length≤1073741824)(hi:i<(l.getD []).length)(dK:ql pr (X pr) j (.ptr 0 (i*4)::caps) [.cells (bK qu (l.getD []))]=I (.aC [],En,[.cells cs])):ql pr (X pr) 221 [sl 4 qu l,Iv (i:Int),.fn (.func j) [] caps] []=I (.ms 0 0 ((l.getD []).length),En,[.cells cs]):=by
 rw[qm (show pr.bM 221=I sC from rfl) (by simp)]
 have pj:vU 0 0 4 88 [(.str []),(Nl),(Nl),(Nl)] [.hole] (I (Lv l)) (I (Lv l))=I ⟨.ms 0 0 (l.getD []).length,En,Gh,[.cells (cellsOf (Gg (l.getD []).length [(.str []),(Nl),(Nl),(Nl)]).flatten)]⟩:=by apply Cc<;>first|exact hlen|rfl|decide
 have pk:wZ 1 Gh 4 [.cells (cellsOf (Gg (l.getD []).length [(.str []),(Nl),(Nl),(Nl)]).flatten)] (I (.ms 0 0 (l.getD []).length)) (I (sl 4 qu l))=I ⟨Lv l,En,Gh,[.cells (bK qu (l.getD []))]⟩:=Cd cE rfl (by simp[cellsOf]) rfl
 simp only[go_sem,seval,sC,pj,pk,vZ hi,dK]<;>rfl
theorem j8k{y:aX} {j:Nat} {caps:List AVal} {l:Option (List aX)} {i:Nat} {cs:List (AVal×Bool)} (hlen:(l.getD []).length≤1073741824) (hi:i<(l.getD []).length) (dK:ql pr (X pr) j (.ptr 0 (i*4)::caps) [.cells (bK qu (l.getD []))]=I (.aC [],En,[.cells cs])) (hcs:cs.map (·.1)=zb qu ((l.getD []).set i y)):qc pr (X pr) 221 [sl 4 qu l,Iv (i:Int),.fn (.func j) [] caps]=I (sl 4 qu (I ((l.getD []).set i y)),En):=by
 have hl:((l.getD []).set i y).length=(l.getD []).length:=Gi
 have hz:aF [.cells cs] (.ms 0 0 ((l.getD []).length))=I (sl 4 qu (I ((l.getD []).set i y))):=by
  rw[EF,←hl]
  exact vY cE (by rw[hl];omega) hcs
 exact zx rfl (zbz hlen hi dK) hz (by first|rfl|simp only[go_sem,seval])
theorem zdm {j caps l i cs}(hlen:(l.getD []).length≤1073741824)(hi:i<(l.getD []).length)(dK:ql pr (X pr) j (.ptr 0 (i*5)::caps) [.cells (bK jb (l.getD []))]=I (.aC [],En,[.cells cs])):ql pr (X pr) 227 [sl 5 jb l,Iv (i:Int),.fn (.func j) [] caps] []=I (.ms 0 0 ((l.getD []).length),En,[.cells cs]):=by
 rw[qm (show pr.bM 227=I sD from rfl) (by simp)]
 have pj:vU 0 0 5 56 [(.str []),(.str []),(Iv 0),(Iv 0),(.bool En)] [.hole] (I (Lv l)) (I (Lv l))=I ⟨.ms 0 0 (l.getD []).length,En,Gh,[.cells (cellsOf (Gg (l.getD []).length [(.str []),(.str []),(Iv 0),(Iv 0),(.bool En)]).flatten)]⟩:=by apply Cc<;>first|exact hlen|rfl|decide
 have pk:wZ 1 Gh 5 [.cells (cellsOf (Gg (l.getD []).length [(.str []),(.str []),(Iv 0),(Iv 0),(.bool En)]).flatten)] (I (.ms 0 0 (l.getD []).length)) (I (sl 5 jb l))=I ⟨Lv l,En,Gh,[.cells (bK jb (l.getD []))]⟩:=Cd gm rfl (by simp[cellsOf]) rfl
 simp only[go_sem,seval,sD,pj,pk,vZ hi,dK]<;>rfl
theorem j7l{y:ja} {j:Nat} {caps:List AVal} {l:Option (List ja)} {i:Nat} {cs:List (AVal×Bool)} (hlen:(l.getD []).length≤1073741824) (hi:i<(l.getD []).length) (dK:ql pr (X pr) j (.ptr 0 (i*5)::caps) [.cells (bK jb (l.getD []))]=I (.aC [],En,[.cells cs])) (hcs:cs.map (·.1)=zb jb ((l.getD []).set i y)):qc pr (X pr) 227 [sl 5 jb l,Iv (i:Int),.fn (.func j) [] caps]=I (sl 5 jb (I ((l.getD []).set i y)),En):=by
 have hl:((l.getD []).set i y).length=(l.getD []).length:=Gi
 have hz:aF [.cells cs] (.ms 0 0 ((l.getD []).length))=I (sl 5 jb (I ((l.getD []).set i y))):=by
  rw[EF,←hl]
  exact vY gm (by rw[hl];omega) hcs
 exact zx rfl (zdm hlen hi dK) hz (by first|rfl|simp only[go_sem,seval])
theorem zee {j caps l i cs}(hlen:(l.getD []).length≤1073741824)(hi:i<(l.getD []).length)(dK:ql pr (X pr) j (.ptr 0 (i*8)::caps) [.cells (bK bj (l.getD []))]=I (.aC [],En,[.cells cs])):ql pr (X pr) 231 [sl 8 bj l,Iv (i:Int),.fn (.func j) [] caps] []=I (.ms 0 0 ((l.getD []).length),En,[.cells cs]):=by
 rw[qm (show pr.bM 231=I nM from rfl) (by simp)]
 have pj:vU 0 0 8 120 [(.str []),(.str []),(Iv 0),(Nl),(Nl),(.str []),(.bool En),(Iv 0)] [.hole] (I (Lv l)) (I (Lv l))=I ⟨.ms 0 0 (l.getD []).length,En,Gh,[.cells (cellsOf (Gg (l.getD []).length [(.str []),(.str []),(Iv 0),(Nl),(Nl),(.str []),(.bool En),(Iv 0)]).flatten)]⟩:=by apply Cc<;>first|exact hlen|rfl|decide
 have pk:wZ 1 Gh 8 [.cells (cellsOf (Gg (l.getD []).length [(.str []),(.str []),(Iv 0),(Nl),(Nl),(.str []),(.bool En),(Iv 0)]).flatten)] (I (.ms 0 0 (l.getD []).length)) (I (sl 8 bj l))=I ⟨Lv l,En,Gh,[.cells (bK bj (l.getD []))]⟩:=Cd ec rfl (by simp[cellsOf]) rfl
 simp only[go_sem,seval,nM,pj,pk,vZ hi,dK]<;>rfl
theorem j6n{y:aY} {j:Nat} {caps:List AVal} {l:Option (List aY)} {i:Nat} {cs:List (AVal×Bool)} (hlen:(l.getD []).length≤1073741824) (hi:i<(l.getD []).length) (dK:ql pr (X pr) j (.ptr 0 (i*8)::caps) [.cells (bK bj (l.getD []))]=I (.aC [],En,[.cells cs])) (hcs:cs.map (·.1)=zb bj ((l.getD []).set i y)):qc pr (X pr) 231 [sl 8 bj l,Iv (i:Int),.fn (.func j) [] caps]=I (sl 8 bj (I ((l.getD []).set i y)),En):=by
 have hl:((l.getD []).set i y).length=(l.getD []).length:=Gi
 have hz:aF [.cells cs] (.ms 0 0 ((l.getD []).length))=I (sl 8 bj (I ((l.getD []).set i y))):=by
  rw[EF,←hl]
  exact vY ec (by rw[hl];omega) hcs
 exact zx rfl (zee hlen hi dK) hz (by first|rfl|simp only[go_sem,seval])
theorem jns {b0 b1 b2 dQ hO j caps l i cs}(hlen:(l.getD []).length≤1073741824)(hi:i<(l.getD []).length)(dK:ql pr (X pr) j (.ptr 5 (i*8)::caps) [b0,b1,b2,dQ,hO,.cells (bK bj (l.getD []))]=I (.aC [],En,[b0,b1,b2,dQ,hO,.cells cs])):ql pr (X pr) 231 [sl 8 bj l,Iv (i:Int),.fn (.func j) [] caps] [b0,b1,b2,dQ,hO]=I (.ms 5 0 ((l.getD []).length),En,[b0,b1,b2,dQ,hO,.cells cs]):=by
 rw[qm (show pr.bM 231=I nM from rfl) (by simp)]
 have pj:vU 5 0 8 120 [(.str []),(.str []),(Iv 0),(Nl),(Nl),(.str []),(.bool En),(Iv 0)] [b0,b1,b2,dQ,hO,.hole] (I (Lv l)) (I (Lv l))=I ⟨.ms 5 0 (l.getD []).length,En,Gh,[b0,b1,b2,dQ,hO,.cells (cellsOf (Gg (l.getD []).length [(.str []),(.str []),(Iv 0),(Nl),(Nl),(.str []),(.bool En),(Iv 0)]).flatten)]⟩:=by apply Cc<;>first|exact hlen|rfl|decide
 have pk:wZ 6 Gh 8 [b0,b1,b2,dQ,hO,.cells (cellsOf (Gg (l.getD []).length [(.str []),(.str []),(Iv 0),(Nl),(Nl),(.str []),(.bool En),(Iv 0)]).flatten)] (I (.ms 5 0 (l.getD []).length)) (I (sl 8 bj l))=I ⟨Lv l,En,Gh,[b0,b1,b2,dQ,hO,.cells (bK bj (l.getD []))]⟩:=Cd ec rfl (by simp[cellsOf]) rfl
 simp only[go_sem,seval,nM,pj,pk,vZ hi,dK]<;>rfl
theorem zcq {j caps l i cs}(hlen:(l.getD []).length≤1073741824)(hi:i<(l.getD []).length)(dK:ql pr (X pr) j (.ptr 0 (i*2)::caps) [.cells (bK bm (l.getD []))]=I (.aC [],En,[.cells cs])):ql pr (X pr) 271 [sl 2 bm l,Iv (i:Int),.fn (.func j) [] caps] []=I (.ms 0 0 ((l.getD []).length),En,[.cells cs]):=by
 rw[qm (show pr.bM 271=I sE from rfl) (by simp)]
 have pj:vU 0 0 2 24 [(.str []),(Iv 0)] [.hole] (I (Lv l)) (I (Lv l))=I ⟨.ms 0 0 (l.getD []).length,En,Gh,[.cells (cellsOf (Gg (l.getD []).length [(.str []),(Iv 0)]).flatten)]⟩:=by apply Cc<;>first|exact hlen|rfl|decide
 have pk:wZ 1 Gh 2 [.cells (cellsOf (Gg (l.getD []).length [(.str []),(Iv 0)]).flatten)] (I (.ms 0 0 (l.getD []).length)) (I (sl 2 bm l))=I ⟨Lv l,En,Gh,[.cells (bK bm (l.getD []))]⟩:=Cd pi rfl (by simp[cellsOf]) rfl
 simp only[go_sem,seval,sE,pj,pk,vZ hi,dK]<;>rfl
theorem j7p{y:br} {j:Nat} {caps:List AVal} {l:Option (List br)} {i:Nat} {cs:List (AVal×Bool)} (hlen:(l.getD []).length≤1073741824) (hi:i<(l.getD []).length) (dK:ql pr (X pr) j (.ptr 0 (i*2)::caps) [.cells (bK bm (l.getD []))]=I (.aC [],En,[.cells cs])) (hcs:cs.map (·.1)=zb bm ((l.getD []).set i y)):qc pr (X pr) 271 [sl 2 bm l,Iv (i:Int),.fn (.func j) [] caps]=I (sl 2 bm (I ((l.getD []).set i y)),En):=by
 have hl:((l.getD []).set i y).length=(l.getD []).length:=Gi
 have hz:aF [.cells cs] (.ms 0 0 ((l.getD []).length))=I (sl 2 bm (I ((l.getD []).set i y))):=by
  rw[EF,←hl]
  exact vY pi (by rw[hl];omega) hcs
 exact zx rfl (zcq hlen hi dK) hz (by first|rfl|simp only[go_sem,seval])
theorem zfw {j caps l i cs}(hlen:(l.getD []).length≤1073741824)(hi:i<(l.getD []).length)(dK:ql pr (X pr) j (.ptr 0 (i*3)::caps) [.cells (bK q9 (l.getD []))]=I (.aC [],En,[.cells cs])):ql pr (X pr) 275 [sl 3 q9 l,Iv (i:Int),.fn (.func j) [] caps] []=I (.ms 0 0 ((l.getD []).length),En,[.cells cs]):=by
 rw[qm (show pr.bM 275=I sF from rfl) (by simp)]
 have pj:vU 0 0 3 32 [(.str []),(Iv 0),(Iv 0)] [.hole] (I (Lv l)) (I (Lv l))=I ⟨.ms 0 0 (l.getD []).length,En,Gh,[.cells (cellsOf (Gg (l.getD []).length [(.str []),(Iv 0),(Iv 0)]).flatten)]⟩:=by apply Cc<;>first|exact hlen|rfl|decide
 have pk:wZ 1 Gh 3 [.cells (cellsOf (Gg (l.getD []).length [(.str []),(Iv 0),(Iv 0)]).flatten)] (I (.ms 0 0 (l.getD []).length)) (I (sl 3 q9 l))=I ⟨Lv l,En,Gh,[.cells (bK q9 (l.getD []))]⟩:=Cd sB rfl (by simp[cellsOf]) rfl
 simp only[go_sem,seval,sF,pj,pk,vZ hi,dK]<;>rfl
theorem j3w{y:jf} {j:Nat} {caps:List AVal} {l:Option (List jf)} {i:Nat} {cs:List (AVal×Bool)} (hlen:(l.getD []).length≤1073741824) (hi:i<(l.getD []).length) (dK:ql pr (X pr) j (.ptr 0 (i*3)::caps) [.cells (bK q9 (l.getD []))]=I (.aC [],En,[.cells cs])) (hcs:cs.map (·.1)=zb q9 ((l.getD []).set i y)):qc pr (X pr) 275 [sl 3 q9 l,Iv (i:Int),.fn (.func j) [] caps]=I (sl 3 q9 (I ((l.getD []).set i y)),En):=by
 have hl:((l.getD []).set i y).length=(l.getD []).length:=Gi
 have hz:aF [.cells cs] (.ms 0 0 ((l.getD []).length))=I (sl 3 q9 (I ((l.getD []).set i y))):=by
  rw[EF,←hl]
  exact vY sB (by rw[hl];omega) hcs
 exact zx rfl (zfw hlen hi dK) hz (by first|rfl|simp only[go_sem,seval])
theorem zgy {j caps l i cs}(hlen:(l.getD []).length≤1073741824)(hi:i<(l.getD []).length)(dK:ql pr (X pr) j (.ptr 0 (i*2)::caps) [.cells (bK bm (l.getD []))]=I (.aC [],En,[.cells cs])):ql pr (X pr) 282 [sl 2 bm l,Iv (i:Int),.fn (.func j) [] caps] []=I (.ms 0 0 ((l.getD []).length),En,[.cells cs]):=by
 rw[qm (show pr.bM 282=I sG from rfl) (by simp)]
 have pj:vU 0 0 2 24 [(.str []),(Iv 0)] [.hole] (I (Lv l)) (I (Lv l))=I ⟨.ms 0 0 (l.getD []).length,En,Gh,[.cells (cellsOf (Gg (l.getD []).length [(.str []),(Iv 0)]).flatten)]⟩:=by apply Cc<;>first|exact hlen|rfl|decide
 have pk:wZ 1 Gh 2 [.cells (cellsOf (Gg (l.getD []).length [(.str []),(Iv 0)]).flatten)] (I (.ms 0 0 (l.getD []).length)) (I (sl 2 bm l))=I ⟨Lv l,En,Gh,[.cells (bK bm (l.getD []))]⟩:=Cd pi rfl (by simp[cellsOf]) rfl
 simp only[go_sem,seval,sG,pj,pk,vZ hi,dK]<;>rfl
theorem j75{y:br} {j:Nat} {caps:List AVal} {l:Option (List br)} {i:Nat} {cs:List (AVal×Bool)} (hlen:(l.getD []).length≤1073741824) (hi:i<(l.getD []).length) (dK:ql pr (X pr) j (.ptr 0 (i*2)::caps) [.cells (bK bm (l.getD []))]=I (.aC [],En,[.cells cs])) (hcs:cs.map (·.1)=zb bm ((l.getD []).set i y)):qc pr (X pr) 282 [sl 2 bm l,Iv (i:Int),.fn (.func j) [] caps]=I (sl 2 bm (I ((l.getD []).set i y)),En):=by
 have hl:((l.getD []).set i y).length=(l.getD []).length:=Gi
 have hz:aF [.cells cs] (.ms 0 0 ((l.getD []).length))=I (sl 2 bm (I ((l.getD []).set i y))):=by
  rw[EF,←hl]
  exact vY pi (by rw[hl];omega) hcs
 exact zx rfl (zgy hlen hi dK) hz (by first|rfl|simp only[go_sem,seval])
end Go.Z
namespace Go.Z
open Go Go.Abs Go.W
def gj {α:Type}(l:Option (List α))(i:Int)(g:α→Option α):Option (Option (List α)):=
 if(l.getD []).length≤1073741824∧0≤i then(match(l.getD [])[i.toNat]? with
  |some x=>(match g x with
   |some y=>I (I ((l.getD []).set i.toNat y))
   |none=>Gh)
  |none=>Gh)else Gh
theorem zT {α:Type}{l i g r}(h:gj l i g=I r):∃(n:Nat) (x y:α),i=(n:Int)∧(l.getD []).length≤1073741824∧(l.getD [])[n]?=I x∧g x=I y∧r=I ((l.getD []).set n y):=by
 unfold gj at h
 split at h
 ·rename_i hc
  split at h
  ·rename_i x hx
   split at h
   ·rename_i y hy
    cases h
    exact⟨i.toNat,x,y,(Int.toNat_of_nonneg hc.2).symm,hc.1,hx,hy,rfl⟩
   ·cases h
  ·cases h
 ·cases h
theorem XY {l r i g j caps}(dK:∀(n:Nat) (x y:aX),(l.getD [])[n]?=I x→g x=I y→∃cs,ql pr (X pr) j (.ptr 0 (n*4)::caps) [.cells (bK qu (l.getD []))]=I (.aC [],En,[.cells cs])∧cs.map (·.1)=zb qu ((l.getD []).set n y))(h:gj l i g=I r):qc pr (X pr) 221 [sl 4 qu l,Iv i,.fn (.func j) [] caps]=I (sl 4 qu r,En):=by
 obtain⟨n,x,y,rfl,hl,hx,hy,rfl⟩:=zT h
 obtain⟨cs,h1,h2⟩:=dK n x y hx hy
 exact j8k hl (Gc.1 hx).1 h1 h2
theorem XZ {l r i g j caps}(dK:∀(n:Nat) (x y:ja),(l.getD [])[n]?=I x→g x=I y→∃cs,ql pr (X pr) j (.ptr 0 (n*5)::caps) [.cells (bK jb (l.getD []))]=I (.aC [],En,[.cells cs])∧cs.map (·.1)=zb jb ((l.getD []).set n y))(h:gj l i g=I r):qc pr (X pr) 227 [sl 5 jb l,Iv i,.fn (.func j) [] caps]=I (sl 5 jb r,En):=by
 obtain⟨n,x,y,rfl,hl,hx,hy,rfl⟩:=zT h
 obtain⟨cs,h1,h2⟩:=dK n x y hx hy
 exact j7l hl (Gc.1 hx).1 h1 h2
theorem E1 {l r i g j caps}(dK:∀(n:Nat) (x y:aY),(l.getD [])[n]?=I x→g x=I y→∃cs,ql pr (X pr) j (.ptr 0 (n*8)::caps) [.cells (bK bj (l.getD []))]=I (.aC [],En,[.cells cs])∧cs.map (·.1)=zb bj ((l.getD []).set n y))(h:gj l i g=I r):qc pr (X pr) 231 [sl 8 bj l,Iv i,.fn (.func j) [] caps]=I (sl 8 bj r,En):=by
 obtain⟨n,x,y,rfl,hl,hx,hy,rfl⟩:=zT h
 obtain⟨cs,h1,h2⟩:=dK n x y hx hy
 exact j6n hl (Gc.1 hx).1 h1 h2
theorem j0s {l r i g j caps}(dK:∀(n:Nat) (x y:br),(l.getD [])[n]?=I x→g x=I y→∃cs,ql pr (X pr) j (.ptr 0 (n*2)::caps) [.cells (bK bm (l.getD []))]=I (.aC [],En,[.cells cs])∧cs.map (·.1)=zb bm ((l.getD []).set n y))(h:gj l i g=I r):qc pr (X pr) 271 [sl 2 bm l,Iv i,.fn (.func j) [] caps]=I (sl 2 bm r,En):=by
 obtain⟨n,x,y,rfl,hl,hx,hy,rfl⟩:=zT h
 obtain⟨cs,h1,h2⟩:=dK n x y hx hy
 exact j7p hl (Gc.1 hx).1 h1 h2
theorem j05 {l r i g j caps}(dK:∀(n:Nat) (x y:jf),(l.getD [])[n]?=I x→g x=I y→∃cs,ql pr (X pr) j (.ptr 0 (n*3)::caps) [.cells (bK q9 (l.getD []))]=I (.aC [],En,[.cells cs])∧cs.map (·.1)=zb q9 ((l.getD []).set n y))(h:gj l i g=I r):qc pr (X pr) 275 [sl 3 q9 l,Iv i,.fn (.func j) [] caps]=I (sl 3 q9 r,En):=by
 obtain⟨n,x,y,rfl,hl,hx,hy,rfl⟩:=zT h
 obtain⟨cs,h1,h2⟩:=dK n x y hx hy
 exact j3w hl (Gc.1 hx).1 h1 h2
theorem j4h {l r i g j caps}(dK:∀(n:Nat) (x y:br),(l.getD [])[n]?=I x→g x=I y→∃cs,ql pr (X pr) j (.ptr 0 (n*2)::caps) [.cells (bK bm (l.getD []))]=I (.aC [],En,[.cells cs])∧cs.map (·.1)=zb bm ((l.getD []).set n y))(h:gj l i g=I r):qc pr (X pr) 282 [sl 2 bm l,Iv i,.fn (.func j) [] caps]=I (sl 2 bm r,En):=by
 obtain⟨n,x,y,rfl,hl,hx,hy,rfl⟩:=zT h
 obtain⟨cs,h1,h2⟩:=dK n x y hx hy
 exact j75 hl (Gc.1 hx).1 h1 h2
theorem zi7 {l i x}(hx:l[i]?=I x):ql pr (X pr) 240 [.ptr 0 (i*5)] [.cells (bK jb l)]=I (.aC [],En,[.cells (bK jb (l.set i { x with held:=Gd }))]):=by
 rw[qm (show pr.bM 240=I sH from rfl) (by simp)]
 have st:jr (bK jb l) (i*5+4) [.bool Gd]=I (bK jb (l.set i { x with held:=Gd })):=mH (o:=4) gm.len hx (Ga rfl) rfl rfl
 simp only[go_sem,seval,sH,st]<;>rfl
def TQ (l:Option (List ja))(i:Int):Option (Option (List ja)):=gj l i fun x=>I { x with held:=Gd }
theorem ji6 {l i r}(h:TQ l i=I r):qc pr (X pr) 227 [sl 5 jb l,Iv i,.fn (.func 240) [] []]=I (sl 5 jb r,En):=
 XZ (fun n x y hx hy=>by cases hy;exact⟨_,zi7 hx,z8⟩) h
theorem zdy {l i x}(hx:l[i]?=I x):ql pr (X pr) 241 [.ptr 0 (i*5)] [.cells (bK jb l)]=I (.aC [],En,[.cells (bK jb (l.set i { x with held:=En }))]):=by
 rw[qm (show pr.bM 241=I sI from rfl) (by simp)]
 have st:jr (bK jb l) (i*5+4) [.bool En]=I (bK jb (l.set i { x with held:=En })):=mH (o:=4) gm.len hx (Ga rfl) rfl rfl
 simp only[go_sem,seval,sI,st]<;>rfl
def TR (l:Option (List ja))(i:Int):Option (Option (List ja)):=gj l i fun x=>I { x with held:=En }
theorem jkx {l i r}(h:TR l i=I r):qc pr (X pr) 227 [sl 5 jb l,Iv i,.fn (.func 241) [] []]=I (sl 5 jb r,En):=
 XZ (fun n x y hx hy=>by cases hy;exact⟨_,zdy hx,z8⟩) h
theorem zj1 {l i x}(hx:l[i]?=I x):ql pr (X pr) 242 [.ptr 0 (i*8)] [.cells (bK bj l)]=I (.aC [],En,[.cells (bK bj (l.set i { x with aj:=Gd }))]):=by
 rw[qm (show pr.bM 242=I sJ from rfl) (by simp)]
 have st:jr (bK bj l) (i*8+6) [.bool Gd]=I (bK bj (l.set i { x with aj:=Gd })):=mH (o:=6) ec.len hx (Ga rfl) rfl rfl
 simp only[go_sem,seval,sJ,st]<;>rfl
def TU (l:Option (List aY))(i:Int):Option (Option (List aY)):=gj l i fun x=>I { x with aj:=Gd }
theorem jkp {l i r}(h:TU l i=I r):qc pr (X pr) 231 [sl 8 bj l,Iv i,.fn (.func 242) [] []]=I (sl 8 bj r,En):=
 E1 (fun n x y hx hy=>by cases hy;exact⟨_,zj1 hx,z8⟩) h
theorem zjo {l i x}(hx:l[i]?=I x):ql pr (X pr) 243 [.ptr 0 (i*8)] [.cells (bK bj l)]=I (.aC [],En,[.cells (bK bj (l.set i { x with ak:=qe .i64 (x.ak+1) }))]):=by
 rw[qm (show pr.bM 243=I sK from rfl) (by simp)]
 have st:jr (bK bj l) (i*8+7) [Iv (qe .i64 (x.ak+1))]=I (bK bj (l.set i { x with ak:=qe .i64 (x.ak+1) })):=mH (o:=7) ec.len hx (Ga rfl) rfl rfl
 have X0:zj (bK bj l) (i*8+7) 1=I [Iv x.ak]:=vG (o:=7) ec.len hx (by decide)
 simp only[go_sem,seval,sK,st,X0]<;>rfl
def TV (l:Option (List aY))(i:Int):Option (Option (List aY)):=gj l i fun x=>I { x with ak:=qe .i64 (x.ak+1) }
theorem jhu {l i r}(h:TV l i=I r):qc pr (X pr) 231 [sl 8 bj l,Iv i,.fn (.func 243) [] []]=I (sl 8 bj r,En):=
 E1 (fun n x y hx hy=>by cases hy;exact⟨_,zjo hx,z8⟩) h
theorem zff {l i x v}(hx:l[i]?=I x):ql pr (X pr) 237 [.ptr 0 (i*8),.ah (Iv v)] [.cells (bK bj l)]=I (.aC [],En,[.cells (bK bj (l.set i { x with version:=v }))]):=by
 rw[qm (show pr.bM 237=I sL from rfl) (by simp)]
 have st:jr (bK bj l) (i*8+2) [Iv v]=I (bK bj (l.set i { x with version:=v })):=mH (o:=2) ec.len hx (Ga rfl) rfl rfl
 simp only[go_sem,seval,sL,st]<;>rfl
def TT (l:Option (List aY))(i:Int)(v:Int):Option (Option (List aY)):=gj l i fun x=>I { x with version:=v }
theorem jir {l i v r}(h:TT l i v=I r):qc pr (X pr) 231 [sl 8 bj l,Iv i,.fn (.func 237) [] [.ah (Iv v)]]=I (sl 8 bj r,En):=
 E1 (fun n x y hx hy=>by cases hy;exact⟨_,zff hx,z8⟩) h
theorem zed {l i x b}(hx:l[i]?=I x):ql pr (X pr) 238 [.ptr 0 (i*8),.ah (bj b)] [.cells (bK bj l)]=I (.aC [],En,[.cells (bK bj (l.set i { x with partner:=b.name }))]):=by
 rw[qm (show pr.bM 238=I sM from rfl) (by simp)]
 have st:jr (bK bj l) (i*8+5) [.str b.name]=I (bK bj (l.set i { x with partner:=b.name })):=mH (o:=5) ec.len hx (Ga rfl) rfl rfl
 simp only[go_sem,seval,sM,st,bj]<;>rfl
def vM (l:Option (List aY))(i:Int)(b:aY):Option (Option (List aY)):=gj l i fun x=>I { x with partner:=b.name }
theorem jja {l i b r}(h:vM l i b=I r):qc pr (X pr) 231 [sl 8 bj l,Iv i,.fn (.func 238) [] [.ah (bj b)]]=I (sl 8 bj r,En):=
 E1 (fun n x y hx hy=>by cases hy;exact⟨_,zed hx,z8⟩) h
theorem zht {l i x b}(hx:l[i]?=I x):ql pr (X pr) 239 [.ptr 0 (i*8),.ah (bj b)] [.cells (bK bj l)]=I (.aC [],En,[.cells (bK bj (l.set i { x with partner:=b.name }))]):=by
 rw[qm (show pr.bM 239=I sN from rfl) (by simp)]
 have st:jr (bK bj l) (i*8+5) [.str b.name]=I (bK bj (l.set i { x with partner:=b.name })):=mH (o:=5) ec.len hx (Ga rfl) rfl rfl
 simp only[go_sem,seval,sN,st,bj]<;>rfl
def vN (l:Option (List aY))(i:Int)(b:aY):Option (Option (List aY)):=gj l i fun x=>I { x with partner:=b.name }
theorem jmi {l i b r}(h:vN l i b=I r):qc pr (X pr) 231 [sl 8 bj l,Iv i,.fn (.func 239) [] [.ah (bj b)]]=I (sl 8 bj r,En):=
 E1 (fun n x y hx hy=>by cases hy;exact⟨_,zht hx,z8⟩) h
theorem zjl {l i x v}(hx:l[i]?=I x):ql pr (X pr) 228 [.ptr 0 (i*5),.ah (Iv v)] [.cells (bK jb l)]=I (.aC [],En,[.cells (bK jb (l.set i { x with left:=qe .i64 (x.left-v) }))]):=by
 rw[qm (show pr.bM 228=I sO from rfl) (by simp)]
 have st:jr (bK jb l) (i*5+3) [Iv (qe .i64 (x.left-v))]=I (bK jb (l.set i { x with left:=qe .i64 (x.left-v) })):=mH (o:=3) gm.len hx (Ga rfl) rfl rfl
 have X0:zj (bK jb l) (i*5+3) 1=I [Iv x.left]:=vG (o:=3) gm.len hx (by decide)
 simp only[go_sem,seval,sO,st,X0]<;>rfl
def TX (l:Option (List ja))(i:Int)(v:Int):Option (Option (List ja)):=gj l i fun x=>I { x with left:=qe .i64 (x.left-v) }
theorem ji1 {l i v r}(h:TX l i v=I r):qc pr (X pr) 227 [sl 5 jb l,Iv i,.fn (.func 228) [] [.ah (Iv v)]]=I (sl 5 jb r,En):=
 XZ (fun n x y hx hy=>by cases hy;exact⟨_,zjl hx,z8⟩) h
theorem zbv {l i x b}(hx:l[i]?=I x):ql pr (X pr) 272 [.ptr 0 (i*2),.ah (bm b)] [.cells (bK bm l)]=I (.aC [],En,[.cells (bK bm (l.set i b))]):=by
 rw[qm (show pr.bM 272=I sP from rfl) (by simp)]
 have st:jr (bK bm l) (i*2) [.str b.k,Iv b.n]=I (bK bm (l.set i b)):=mH (o:=0) pi.len hx (Ga rfl) rfl rfl
 simp only[go_sem,seval,sP,st,bm]<;>rfl
def jw6 (l:Option (List br))(i:Int)(b:br):Option (Option (List br)):=gj l i fun x=>I b
theorem jh5 {l i b r}(h:jw6 l i b=I r):qc pr (X pr) 271 [sl 2 bm l,Iv i,.fn (.func 272) [] [.ah (bm b)]]=I (sl 2 bm r,En):=
 j0s (fun n x y hx hy=>by cases hy;exact⟨_,zbv hx,z8⟩) h
theorem zek {l i x b}(hx:l[i]?=I x):ql pr (X pr) 276 [.ptr 0 (i*3),.ah (q9 b)] [.cells (bK q9 l)]=I (.aC [],En,[.cells (bK q9 (l.set i b))]):=by
 rw[qm (show pr.bM 276=I sQ from rfl) (by simp)]
 have st:jr (bK q9 l) (i*3) [.str b.k,Iv b.a,Iv b.b]=I (bK q9 (l.set i b)):=mH (o:=0) sB.len hx (Ga rfl) rfl rfl
 simp only[go_sem,seval,sQ,st,q9]<;>rfl
def jwz (l:Option (List jf))(i:Int)(b:jf):Option (Option (List jf)):=gj l i fun x=>I b
theorem jgg {l i b r}(h:jwz l i b=I r):qc pr (X pr) 275 [sl 3 q9 l,Iv i,.fn (.func 276) [] [.ah (q9 b)]]=I (sl 3 q9 r,En):=
 j05 (fun n x y hx hy=>by cases hy;exact⟨_,zek hx,z8⟩) h
theorem zkh {l i x b}(hx:l[i]?=I x):ql pr (X pr) 283 [.ptr 0 (i*2),.ah (bm b)] [.cells (bK bm l)]=I (.aC [],En,[.cells (bK bm (l.set i b))]):=by
 rw[qm (show pr.bM 283=I sR from rfl) (by simp)]
 have st:jr (bK bm l) (i*2) [.str b.k,Iv b.n]=I (bK bm (l.set i b)):=mH (o:=0) pi.len hx (Ga rfl) rfl rfl
 simp only[go_sem,seval,sR,st,bm]<;>rfl
def jxg (l:Option (List br))(i:Int)(b:br):Option (Option (List br)):=gj l i fun x=>I b
theorem jl6 {l i b r}(h:jxg l i b=I r):qc pr (X pr) 282 [sl 2 bm l,Iv i,.fn (.func 283) [] [.ah (bm b)]]=I (sl 2 bm r,En):=
 j4h (fun n x y hx hy=>by cases hy;exact⟨_,zkh hx,z8⟩) h
end Go.Z
namespace Go.Z
open Go Go.Abs Go.W
def Ju (a0:br)(a1:List UInt8):Option Bool:=
 I (decide (a0.k=a1))
theorem X2 (hp:qh){a0 a1 r}(h:Ju a0 a1=I r):ql pr (X pr) 211 [aN a0,.ah (.str a1)] hp=I (.bool r,En,hp):=by
 unfold Ju at h
 have hr:decide (a0.k=a1)=r:=I.inj h
 subst hr
 rw[qm (show pr.bM 211=I sS from rfl) (by simp)]
 simp only[go_sem,seval,sS]<;>rfl
def NB (a0:Option (List br))(ai:List UInt8)(s0:Int):Option (Int⊕(Int⊕Int)):=
 cond (decide (s0<((a0.getD []).length:Int)))
  (qa (qq (a0.getD []) s0) fun ef=>
  qa (Ju ef ai) fun dD=>
  cond dD
   (I (.inr (.inl s0)))
   (I (.inl (qe .i64 (s0+1)))))
  (I (.inr (.inr s0)))
def NC (a0:Option (List br))(ai:List UInt8)(hp:qh)(s0:Int):bf:=⟨[(0,sl 2 bm a0,En),(1,.fn (.func 211) [] [.ah (.str ai)],En),(7,Lv a0,En),(8,Iv s0,En)],hp⟩
def ND (a0:Option (List br))(ai:List UInt8)(hp:qh):Int⊕Int→jg×bf
 | .inl d=>(.ret,⟨[(4,Iv d,En)],hp⟩)
 | .inr d=>(.exit 0,⟨[(0,sl 2 bm a0,En),(1,.fn (.func 211) [] [.ah (.str ai)],En),(7,Lv a0,En),(8,Iv d,En),(9,.bool En,En)],hp⟩)
theorem jom (a0:Option (List br))(ai:List UInt8)(hp:qh)(s0:Int)(r)(h:NB a0 ai s0=I r):jz pr pn (NC a0 ai hp) (ND a0 ai hp) s0 r:=by
 unfold NB at h
 repeat' first|(replace h:=qb h;obtain⟨d,g,h⟩:=h;with_reducible first|replace g:=X2 hp g|skip)|(replace h:=qd h;rcases h with⟨g,h⟩|⟨g,h⟩)
 all_goals (cases h<;>((first|refine qz ?_|refine ju ?_);simp only[go_sem,seval,pn,NC,jh,ND, *]<;>rfl))
theorem jo7 (a0:Option (List br))(ai:List UInt8)(hp:qh){s0 d}(h:bz (NB a0 ai) s0=I d):X pr (.loop pn) (NC a0 ai hp s0)=I (ND a0 ai hp d):=zn (jom a0 ai hp) h
def HO (a0:Option (List br))(ai:List UInt8):Option Int:=
 qa (bz (NB a0 ai) 0) fun d19=>match d19 with
  | .inl d21=>
   I d21
  | .inr d22=>
   I (-1)
theorem j6x (hp:qh){a0 ai r}(h:HO a0 ai=I r):ql pr (X pr) 250 [sl 2 bm a0,.fn (.func 211) [] [.ah (.str ai)]] hp=I (Iv r,En,hp):=by
 unfold HO at h
 rw[qm (show pr.bM 250=I iR from rfl) (by simp)]
 repeat' first|(replace h:=qb h;obtain⟨d,g,h⟩:=h;with_reducible first|(replace g:=jo7 a0 ai hp g;rcases d with d|d<;>dsimp only[NC,ND,zm]at g h)|skip)|(replace h:=qd h;rcases h with⟨g,h⟩|⟨g,h⟩)
 all_goals (cases h<;>(simp only[go_sem,seval,iR, *]<;>rfl))
def NE (a0:Option (List br))(ai:List UInt8)(s0:Int):Option (Int⊕(Int⊕Int)):=
 cond (decide (s0<((a0.getD []).length:Int)))
  (qa (qq (a0.getD []) s0) fun ef=>
  qa (Ju ef ai) fun dD=>
  cond dD
   (I (.inr (.inl s0)))
   (I (.inl (qe .i64 (s0+1)))))
  (I (.inr (.inr s0)))
def NF (a0:Option (List br))(ai:List UInt8)(s0:Int):bf:=⟨[(0,sl 2 bm a0,En),(1,.fn (.func 211) [] [.ah (.str ai)],En),(7,Lv a0,En),(8,Iv s0,En)],[]⟩
def NG (a0:Option (List br))(ai:List UInt8):Int⊕Int→jg×bf
 | .inl d=>(.ret,⟨[(4,Iv d,En)],[]⟩)
 | .inr d=>(.exit 0,⟨[(0,sl 2 bm a0,En),(1,.fn (.func 211) [] [.ah (.str ai)],En),(7,Lv a0,En),(8,Iv d,En),(9,.bool En,En)],[]⟩)
theorem jor (a0:Option (List br))(ai:List UInt8)(s0:Int)(r)(h:NE a0 ai s0=I r):jz pr pn (NF a0 ai) (NG a0 ai) s0 r:=by
 unfold NE at h
 repeat' first|(replace h:=qb h;obtain⟨d,g,h⟩:=h;with_reducible first|replace g:=X2 [] g|skip)|(replace h:=qd h;rcases h with⟨g,h⟩|⟨g,h⟩)
 all_goals (cases h<;>((first|refine qz ?_|refine ju ?_);simp only[go_sem,seval,pn,NF,jh,NG, *]<;>rfl))
theorem jq0 (a0:Option (List br))(ai:List UInt8){s0 d}(h:bz (NE a0 ai) s0=I d):X pr (.loop pn) (NF a0 ai s0)=I (NG a0 ai d):=zn (jor a0 ai) h
def HI (a0:Option (List br))(ai:List UInt8):Option Int:=
 qa (bz (NE a0 ai) 0) fun d19=>match d19 with
  | .inl d21=>
   I d21
  | .inr d22=>
   I (-1)
theorem j32 {a0 ai r}(h:HI a0 ai=I r):qc pr (X pr) 250 [sl 2 bm a0,.fn (.func 211) [] [.ah (.str ai)]]=I (Iv r,En):=by
 unfold HI at h
 refine zi iR ?_
 repeat' first|(replace h:=qb h;obtain⟨d,g,h⟩:=h;with_reducible first|(replace g:=jq0 a0 ai g;rcases d with d|d<;>dsimp only[NF,NG,zm]at g h)|skip)|(replace h:=qd h;rcases h with⟨g,h⟩|⟨g,h⟩)
 all_goals (cases h<;>(simp only[go_sem,seval,iR, *];exact⟨_,rfl⟩))
def HN (a0:Option (List br))(ai:List UInt8):Option Bool:=
 qa (HO a0 ai) fun v1=>
 I (decide (0≤v1))
theorem j5n {a0 ai r}(h:HN a0 ai=I r):qc pr (X pr) 193 [sl 2 bm a0,.fn (.func 211) [] [.ah (.str ai)]]=I (.bool r,En):=by
 unfold HN at h
 refine zi lj ?_
 repeat' first|(replace h:=qb h;obtain⟨d,g,h⟩:=h;with_reducible first|replace g:=j6x [] g|skip)|(replace h:=qd h;rcases h with⟨g,h⟩|⟨g,h⟩)
 all_goals (cases h<;>(simp only[go_sem,seval,lj, *];exact⟨_,rfl⟩))
def X3 (a0:br)(a1:ja):Option Bool:=
 I (decide (a0.k=a1.kind))
theorem zit (hp:qh){a0 a1 r}(h:X3 a0 a1=I r):ql pr (X pr) 226 [aN a0,.ah (aL a1)] hp=I (.bool r,En,hp):=by
 unfold X3 at h
 have hr:decide (a0.k=a1.kind)=r:=I.inj h
 subst hr
 rw[qm (show pr.bM 226=I sT from rfl) (by simp)]
 simp only[go_sem,seval,sT]<;>rfl
def NH (a0:Option (List br))(ai:ja)(s0:Int):Option (Int⊕(Int⊕Int)):=
 cond (decide (s0<((a0.getD []).length:Int)))
  (qa (qq (a0.getD []) s0) fun ef=>
  qa (X3 ef ai) fun dD=>
  cond dD
   (I (.inr (.inl s0)))
   (I (.inl (qe .i64 (s0+1)))))
  (I (.inr (.inr s0)))
def NI (a0:Option (List br))(ai:ja)(hp:qh)(s0:Int):bf:=⟨[(0,sl 2 bm a0,En),(1,.fn (.func 226) [] [.ah (aL ai)],En),(7,Lv a0,En),(8,Iv s0,En)],hp⟩
def NJ (a0:Option (List br))(ai:ja)(hp:qh):Int⊕Int→jg×bf
 | .inl d=>(.ret,⟨[(4,Iv d,En)],hp⟩)
 | .inr d=>(.exit 0,⟨[(0,sl 2 bm a0,En),(1,.fn (.func 226) [] [.ah (aL ai)],En),(7,Lv a0,En),(8,Iv d,En),(9,.bool En,En)],hp⟩)
theorem jpn (a0:Option (List br))(ai:ja)(hp:qh)(s0:Int)(r)(h:NH a0 ai s0=I r):jz pr pn (NI a0 ai hp) (NJ a0 ai hp) s0 r:=by
 unfold NH at h
 repeat' first|(replace h:=qb h;obtain⟨d,g,h⟩:=h;with_reducible first|replace g:=zit hp g|skip)|(replace h:=qd h;rcases h with⟨g,h⟩|⟨g,h⟩)
 all_goals (cases h<;>((first|refine qz ?_|refine ju ?_);simp only[go_sem,seval,pn,NI,jh,NJ, *]<;>rfl))
theorem jn0 (a0:Option (List br))(ai:ja)(hp:qh){s0 d}(h:bz (NH a0 ai) s0=I d):X pr (.loop pn) (NI a0 ai hp s0)=I (NJ a0 ai hp d):=zn (jpn a0 ai hp) h
def HQ (a0:Option (List br))(ai:ja):Option Int:=
 qa (bz (NH a0 ai) 0) fun d19=>match d19 with
  | .inl d21=>
   I d21
  | .inr d22=>
   I (-1)
theorem j31 (hp:qh){a0 ai r}(h:HQ a0 ai=I r):ql pr (X pr) 250 [sl 2 bm a0,.fn (.func 226) [] [.ah (aL ai)]] hp=I (Iv r,En,hp):=by
 unfold HQ at h
 rw[qm (show pr.bM 250=I iR from rfl) (by simp)]
 repeat' first|(replace h:=qb h;obtain⟨d,g,h⟩:=h;with_reducible first|(replace g:=jn0 a0 ai hp g;rcases d with d|d<;>dsimp only[NI,NJ,zm]at g h)|skip)|(replace h:=qd h;rcases h with⟨g,h⟩|⟨g,h⟩)
 all_goals (cases h<;>(simp only[go_sem,seval,iR, *]<;>rfl))
def HP (a0:Option (List br))(ai:ja):Option Bool:=
 qa (HQ a0 ai) fun v1=>
 I (decide (0≤v1))
theorem j19 {a0 ai r}(h:HP a0 ai=I r):qc pr (X pr) 193 [sl 2 bm a0,.fn (.func 226) [] [.ah (aL ai)]]=I (.bool r,En):=by
 unfold HP at h
 refine zi lj ?_
 repeat' first|(replace h:=qb h;obtain⟨d,g,h⟩:=h;with_reducible first|replace g:=j31 [] g|skip)|(replace h:=qd h;rcases h with⟨g,h⟩|⟨g,h⟩)
 all_goals (cases h<;>(simp only[go_sem,seval,lj, *];exact⟨_,rfl⟩))
def Mr (a0:br)(l5:List UInt8):Option Bool:=
 qa (Ju a0 l5) fun v1=>
 I (!v1)
theorem zjg (hp:qh){a0 l5 r}(h:Mr a0 l5=I r):ql pr (X pr) 215 [aN a0,.ah (.fn (.func 211) [] [.ah (.str l5)])] hp=I (.bool r,En,hp):=by
 unfold Mr at h
 obtain⟨v1,h2,h⟩:=qb h
 have jD:ql pr (X pr) 211 [aN a0,.ah (.str l5)] hp=I (.bool v1,En,hp):=X2 hp h2
 have hr:(!v1)=r:=I.inj h
 subst hr
 rw[qm (show pr.bM 215=I sU from rfl) (by simp)]
 simp only[go_sem,seval,sU,jD]<;>rfl
def HM (a0:Option (List br))(b8:List UInt8)(s0:(Option (List br))×Int×Bool):Option (((Option (List br))×Int×Bool)⊕(((Option (List br))×Bool×Int))):=
 cond (decide (s0.2.1<((a0.getD []).length:Int)))
  (qa (qq (a0.getD []) s0.2.1) fun v20=>
  qa (Mr v20 b8) fun v22=>
  cond v22
   (cond s0.2.2
    (qa (bH s0.1 [v20]) fun v26=>
    I (.inl (v26,qe .i64 (s0.2.1+1),Gd)))
    (cond s0.1.isNone
     (qa (bH s0.1 [v20]) fun fb=>
     I (.inl (fb,qe .i64 (s0.2.1+1),Gd)))
     (Gh)))
   (I (.inl (s0.1,qe .i64 (s0.2.1+1),s0.2.2))))
  (I (.inr (s0.1,s0.2.2,s0.2.1)))
def NK (a0:Option (List br))(b8:List UInt8)(hp:qh)(s0:(Option (List br))×Int×Bool):bf:=⟨[(1,.fn (.func 215) [] [.ah (.fn (.func 211) [] [.ah (.str b8)])],En),(5,sl 2 bm s0.1,s0.2.2),(8,sl 2 bm a0,En),(9,Lv a0,En),(10,Iv s0.2.1,En)],hp⟩
def NL (a0:Option (List br))(b8:List UInt8)(hp:qh)(d:((Option (List br))×Bool×Int)):jg×bf:=(.exit 0,⟨[(1,.fn (.func 215) [] [.ah (.fn (.func 211) [] [.ah (.str b8)])],En),(5,sl 2 bm d.1,d.2.1),(8,sl 2 bm a0,En),(9,Lv a0,En),(10,Iv d.2.2,En),(11,.bool En,En)],hp⟩)
theorem jvj (a0:Option (List br))(b8:List UInt8)(hp:qh)(s0:(Option (List br))×Int×Bool)(r)(h:HM a0 b8 s0=I r):jz pr NM (NK a0 b8 hp) (NL a0 b8 hp) s0 r:=by
 unfold HM at h
 repeat' first|(replace h:=qb h;obtain⟨d,g,h⟩:=h;with_reducible first|replace g:=zjg hp g|replace g:=Bf g|skip)|(replace h:=qd h;rcases h with⟨g,h⟩|⟨g,h⟩)
 all_goals (cases h<;>((first|refine qz ?_|refine ju ?_);simp only[go_sem,seval,NM,NK,jh,NL, *]<;>rfl))
theorem jv8 (a0:Option (List br))(b8:List UInt8)(hp:qh){s0 d}(h:bz (HM a0 b8) s0=I d):X pr (.loop NM) (NK a0 b8 hp s0)=I (NL a0 b8 hp d):=zn (jvj a0 b8 hp) h
def HL (a0:Option (List br))(b8:List UInt8):Option ((Option (List br))×Bool):=
 qa (bz (HM a0 b8) (Gh,0,En)) fun d31=>
 I (d31.1,d31.2.1)
theorem zkb (hp:qh){a0 b8 r}(h:HL a0 b8=I r):ql pr (X pr) 214 [sl 2 bm a0,.fn (.func 215) [] [.ah (.fn (.func 211) [] [.ah (.str b8)])]] hp=I (sl 2 bm r.1,r.2,hp):=by
 unfold HL at h
 rw[qm (show pr.bM 214=I sV from rfl) (by simp)]
 repeat' first|(replace h:=qb h;obtain⟨d,g,h⟩:=h;with_reducible first|(replace g:=jv8 a0 b8 hp g;dsimp only[NK,NL,zm]at g h)|skip)|(replace h:=qd h;rcases h with⟨g,h⟩|⟨g,h⟩)
 all_goals (cases h<;>(simp only[go_sem,seval,sV, *]<;>rfl))
def HG (a0:Option (List br))(a1:br)(dJ:List UInt8):Option ((Option (List br))×Bool):=
 qa (HI a0 dJ) fun v1=>
 cond (decide (0≤v1))
  (qa (jw6 a0 v1 a1) fun v4=>
  I (v4,En))
  (qa (Mp a0 a1) fun v6=>
  I (v6,Gd))
theorem zc1 {a0 a1 dJ r}(h:HG a0 a1 dJ=I r):qc pr (X pr) 216 [sl 2 bm a0,aN a1,.fn (.func 211) [] [.ah (.str dJ)]]=I (sl 2 bm r.1,r.2):=by
 unfold HG at h
 refine y5 sW ?_
 repeat' first|(replace h:=qb h;obtain⟨d,g,h⟩:=h; (with_reducible first|replace g:=j32 g|replace g:=jh5 g|replace g:=zcl g|skip);try dsimp only[zm,jB,Gm,zw,jd,jb,qu,bj,zh,vev,bm,q9,yd,aE,aR,aU,aL,aP,aD]at g)|(replace h:=qd h;rcases h with⟨g,h⟩|⟨g,h⟩)
 all_goals (cases h<;>(simp only[go_sem,seval,sW, *];exact⟨_,rfl⟩))
def f217 (a0:jf)(a1:jf):Option Bool:=
 I (decide (a0.k=a1.k))
theorem zdz (hp:qh){a0 a1 r}(h:f217 a0 a1=I r):ql pr (X pr) 217 [aT a0,.ah (aT a1)] hp=I (.bool r,En,hp):=by
 unfold f217 at h
 have hr:decide (a0.k=a1.k)=r:=I.inj h
 subst hr
 rw[qm (show pr.bM 217=I sX from rfl) (by simp)]
 simp only[go_sem,seval,sX]<;>rfl
def NN (a0:Option (List jf))(ai:jf)(s0:Int):Option (Int⊕(Int⊕Int)):=
 cond (decide (s0<((a0.getD []).length:Int)))
  (qa (qq (a0.getD []) s0) fun ef=>
  qa (f217 ef ai) fun dD=>
  cond dD
   (I (.inr (.inl s0)))
   (I (.inl (qe .i64 (s0+1)))))
  (I (.inr (.inr s0)))
def NP (a0:Option (List jf))(ai:jf)(s0:Int):bf:=⟨[(0,sl 3 q9 a0,En),(1,.fn (.func 217) [] [.ah (aT ai)],En),(7,Lv a0,En),(8,Iv s0,En)],[]⟩
def NQ (a0:Option (List jf))(ai:jf):Int⊕Int→jg×bf
 | .inl d=>(.ret,⟨[(4,Iv d,En)],[]⟩)
 | .inr d=>(.exit 0,⟨[(0,sl 3 q9 a0,En),(1,.fn (.func 217) [] [.ah (aT ai)],En),(7,Lv a0,En),(8,Iv d,En),(9,.bool En,En)],[]⟩)
theorem joq (a0:Option (List jf))(ai:jf)(s0:Int)(r)(h:NN a0 ai s0=I r):jz pr Ce (NP a0 ai) (NQ a0 ai) s0 r:=by
 unfold NN at h
 repeat' first|(replace h:=qb h;obtain⟨d,g,h⟩:=h;with_reducible first|replace g:=zdz [] g|skip)|(replace h:=qd h;rcases h with⟨g,h⟩|⟨g,h⟩)
 all_goals (cases h<;>((first|refine qz ?_|refine ju ?_);simp only[go_sem,seval,Ce,NP,jh,NQ, *]<;>rfl))
theorem jq7 (a0:Option (List jf))(ai:jf){s0 d}(h:bz (NN a0 ai) s0=I d):X pr (.loop Ce) (NP a0 ai s0)=I (NQ a0 ai d):=zn (joq a0 ai) h
def yZ (a0:Option (List jf))(ai:jf):Option Int:=
 qa (bz (NN a0 ai) 0) fun d19=>match d19 with
  | .inl d21=>
   I d21
  | .inr d22=>
   I (-1)
theorem jnl {a0 ai r}(h:yZ a0 ai=I r):qc pr (X pr) 274 [sl 3 q9 a0,.fn (.func 217) [] [.ah (aT ai)]]=I (Iv r,En):=by
 unfold yZ at h
 refine zi nO ?_
 repeat' first|(replace h:=qb h;obtain⟨d,g,h⟩:=h;with_reducible first|(replace g:=jq7 a0 ai g;rcases d with d|d<;>dsimp only[NP,NQ,zm]at g h)|skip)|(replace h:=qd h;rcases h with⟨g,h⟩|⟨g,h⟩)
 all_goals (cases h<;>(simp only[go_sem,seval,nO, *];exact⟨_,rfl⟩))
def HR (a0:Option (List jf))(ai:jf):Option Bool:=
 qa (yZ a0 ai) fun v1=>
 I (decide (0≤v1))
theorem j70 {a0 ai r}(h:HR a0 ai=I r):qc pr (X pr) 218 [sl 3 q9 a0,.fn (.func 217) [] [.ah (aT ai)]]=I (.bool r,En):=by
 unfold HR at h
 refine zi nP ?_
 repeat' first|(replace h:=qb h;obtain⟨d,g,h⟩:=h;with_reducible first|replace g:=jnl g|skip)|(replace h:=qd h;rcases h with⟨g,h⟩|⟨g,h⟩)
 all_goals (cases h<;>(simp only[go_sem,seval,nP, *];exact⟨_,rfl⟩))
def HJ (a0:Option (List jf))(a1:jf)(dJ:jf):Option ((Option (List jf))×Bool):=
 qa (yZ a0 dJ) fun v1=>
 cond (decide (0≤v1))
  (qa (jwz a0 v1 a1) fun v4=>
  I (v4,En))
  (qa (f277 a0 a1) fun v6=>
  I (v6,Gd))
theorem zc0 {a0 a1 dJ r}(h:HJ a0 a1 dJ=I r):qc pr (X pr) 220 [sl 3 q9 a0,aT a1,.fn (.func 217) [] [.ah (aT dJ)]]=I (sl 3 q9 r.1,r.2):=by
 unfold HJ at h
 refine y5 sY ?_
 repeat' first|(replace h:=qb h;obtain⟨d,g,h⟩:=h; (with_reducible first|replace g:=jnl g|replace g:=jgg g|replace g:=zgn g|skip);try dsimp only[zm,jB,Gm,zw,jd,jb,qu,bj,zh,vev,bm,q9,yd,aE,aR,aU,aL,aP,aD]at g)|(replace h:=qd h;rcases h with⟨g,h⟩|⟨g,h⟩)
 all_goals (cases h<;>(simp only[go_sem,seval,sY, *];exact⟨_,rfl⟩))
def Ms (a0:jf)(a1:GEv):Option Bool:=
 qa (qq (a1.names.getD []) 1) fun v1=>
 I (decide (a0.k=v1))
theorem zcs (hp:qh){a0 a1 r}(h:Ms a0 a1=I r):ql pr (X pr) 234 [aT a0,.ah (aE a1)] hp=I (.bool r,En,hp):=by
 unfold Ms at h
 obtain⟨v1,h2,h⟩:=qb h
 have hr:decide (a0.k=v1)=r:=I.inj h
 subst hr
 rw[qm (show pr.bM 234=I sZ from rfl) (by simp)]
 simp only[go_sem,seval,sZ,z7 h2]<;>rfl
def HU (a0:Option (List jf))(ai:GEv)(s0:Int):Option (Int⊕(Int⊕Int)):=
 cond (decide (s0<((a0.getD []).length:Int)))
  (qa (qq (a0.getD []) s0) fun ef=>
  qa (Ms ef ai) fun dD=>
  cond dD
   (I (.inr (.inl s0)))
   (I (.inl (qe .i64 (s0+1)))))
  (I (.inr (.inr s0)))
def NR (a0:Option (List jf))(ai:GEv)(s0:Int):bf:=⟨[(0,sl 3 q9 a0,En),(1,.fn (.func 234) [] [.ah (aE ai)],En),(7,Lv a0,En),(8,Iv s0,En)],[]⟩
def NS (a0:Option (List jf))(ai:GEv):Int⊕Int→jg×bf
 | .inl d=>(.ret,⟨[(4,Iv d,En)],[]⟩)
 | .inr d=>(.exit 0,⟨[(0,sl 3 q9 a0,En),(1,.fn (.func 234) [] [.ah (aE ai)],En),(7,Lv a0,En),(8,Iv d,En),(9,.bool En,En)],[]⟩)
theorem jox (a0:Option (List jf))(ai:GEv)(s0:Int)(r)(h:HU a0 ai s0=I r):jz pr Ce (NR a0 ai) (NS a0 ai) s0 r:=by
 unfold HU at h
 repeat' first|(replace h:=qb h;obtain⟨d,g,h⟩:=h;with_reducible first|replace g:=zcs [] g|skip)|(replace h:=qd h;rcases h with⟨g,h⟩|⟨g,h⟩)
 all_goals (cases h<;>((first|refine qz ?_|refine ju ?_);simp only[go_sem,seval,Ce,NR,jh,NS, *]<;>rfl))
theorem jqp (a0:Option (List jf))(ai:GEv){s0 d}(h:bz (HU a0 ai) s0=I d):X pr (.loop Ce) (NR a0 ai s0)=I (NS a0 ai d):=zn (jox a0 ai) h
def HT (a0:Option (List jf))(ai:GEv):Option Int:=
 qa (bz (HU a0 ai) 0) fun d19=>match d19 with
  | .inl d21=>
   I d21
  | .inr d22=>
   I (-1)
theorem j7e {a0 ai r}(h:HT a0 ai=I r):qc pr (X pr) 274 [sl 3 q9 a0,.fn (.func 234) [] [.ah (aE ai)]]=I (Iv r,En):=by
 unfold HT at h
 refine zi nO ?_
 repeat' first|(replace h:=qb h;obtain⟨d,g,h⟩:=h;with_reducible first|(replace g:=jqp a0 ai g;rcases d with d|d<;>dsimp only[NR,NS,zm]at g h)|skip)|(replace h:=qd h;rcases h with⟨g,h⟩|⟨g,h⟩)
 all_goals (cases h<;>(simp only[go_sem,seval,nO, *];exact⟨_,rfl⟩))
def HS (a0:Option (List jf))(ai:GEv):Option Bool:=
 qa (HT a0 ai) fun v1=>
 I (decide (0≤v1))
theorem j5g {a0 ai r}(h:HS a0 ai=I r):qc pr (X pr) 218 [sl 3 q9 a0,.fn (.func 234) [] [.ah (aE ai)]]=I (.bool r,En):=by
 unfold HS at h
 refine zi nP ?_
 repeat' first|(replace h:=qb h;obtain⟨d,g,h⟩:=h;with_reducible first|replace g:=j7e g|skip)|(replace h:=qd h;rcases h with⟨g,h⟩|⟨g,h⟩)
 all_goals (cases h<;>(simp only[go_sem,seval,nP, *];exact⟨_,rfl⟩))
def X4 (a0:br)(a1:ja):Option Bool:=
 I (decide (a0.k=a1.name))
theorem zgu (hp:qh){a0 a1 r}(h:X4 a0 a1=I r):ql pr (X pr) 229 [aN a0,.ah (aL a1)] hp=I (.bool r,En,hp):=by
 unfold X4 at h
 have hr:decide (a0.k=a1.name)=r:=I.inj h
 subst hr
 rw[qm (show pr.bM 229=I s5 from rfl) (by simp)]
 simp only[go_sem,seval,s5]<;>rfl
def NT (a0:Option (List br))(ai:ja)(s0:Int):Option (Int⊕(Int⊕Int)):=
 cond (decide (s0<((a0.getD []).length:Int)))
  (qa (qq (a0.getD []) s0) fun ef=>
  qa (X4 ef ai) fun dD=>
  cond dD
   (I (.inr (.inl s0)))
   (I (.inl (qe .i64 (s0+1)))))
  (I (.inr (.inr s0)))
def NU (a0:Option (List br))(ai:ja)(s0:Int):bf:=⟨[(0,sl 2 bm a0,En),(1,.fn (.func 229) [] [.ah (aL ai)],En),(7,Lv a0,En),(8,Iv s0,En)],[]⟩
def NV (a0:Option (List br))(ai:ja):Int⊕Int→jg×bf
 | .inl d=>(.ret,⟨[(4,Iv d,En)],[]⟩)
 | .inr d=>(.exit 0,⟨[(0,sl 2 bm a0,En),(1,.fn (.func 229) [] [.ah (aL ai)],En),(7,Lv a0,En),(8,Iv d,En),(9,.bool En,En)],[]⟩)
theorem jwq (a0:Option (List br))(ai:ja)(s0:Int)(r)(h:NT a0 ai s0=I r):jz pr NW (NU a0 ai) (NV a0 ai) s0 r:=by
 unfold NT at h
 repeat' first|(replace h:=qb h;obtain⟨d,g,h⟩:=h;with_reducible first|replace g:=zgu [] g|skip)|(replace h:=qd h;rcases h with⟨g,h⟩|⟨g,h⟩)
 all_goals (cases h<;>((first|refine qz ?_|refine ju ?_);simp only[go_sem,seval,NW,NU,jh,NV, *]<;>rfl))
theorem jvr (a0:Option (List br))(ai:ja){s0 d}(h:bz (NT a0 ai) s0=I d):X pr (.loop NW) (NU a0 ai s0)=I (NV a0 ai d):=zn (jwq a0 ai) h
def zA (a0:Option (List br))(ai:ja):Option Int:=
 qa (bz (NT a0 ai) 0) fun d19=>match d19 with
  | .inl d21=>
   I d21
  | .inr d22=>
   I (-1)
theorem jup {a0 ai r}(h:zA a0 ai=I r):qc pr (X pr) 230 [sl 2 bm a0,.fn (.func 229) [] [.ah (aL ai)]]=I (Iv r,En):=by
 unfold zA at h
 refine zi s6 ?_
 repeat' first|(replace h:=qb h;obtain⟨d,g,h⟩:=h;with_reducible first|(replace g:=jvr a0 ai g;rcases d with d|d<;>dsimp only[NU,NV,zm]at g h)|skip)|(replace h:=qd h;rcases h with⟨g,h⟩|⟨g,h⟩)
 all_goals (cases h<;>(simp only[go_sem,seval,s6, *];exact⟨_,rfl⟩))
def HK (a0:Option (List br))(a1:br)(dJ:ja):Option ((Option (List br))×Bool):=
 qa (zA a0 dJ) fun v1=>
 cond (decide (0≤v1))
  (qa (jxg a0 v1 a1) fun v4=>
  I (v4,En))
  (qa (f284 a0 a1) fun v6=>
  I (v6,Gd))
theorem zga {a0 a1 dJ r}(h:HK a0 a1 dJ=I r):qc pr (X pr) 233 [sl 2 bm a0,aN a1,.fn (.func 229) [] [.ah (aL dJ)]]=I (sl 2 bm r.1,r.2):=by
 unfold HK at h
 refine y5 s7 ?_
 repeat' first|(replace h:=qb h;obtain⟨d,g,h⟩:=h; (with_reducible first|replace g:=jup g|replace g:=jl6 g|replace g:=zbl g|skip);try dsimp only[zm,jB,Gm,zw,jd,jb,qu,bj,zh,vev,bm,q9,yd,aE,aR,aU,aL,aP,aD]at g)|(replace h:=qd h;rcases h with⟨g,h⟩|⟨g,h⟩)
 all_goals (cases h<;>(simp only[go_sem,seval,s7, *];exact⟨_,rfl⟩))
end Go.Z
namespace Go.Z
open Go Go.Abs Go.W
theorem E2 {α:Type}{f:α→AVal}{sz}(E:ph f sz){l i o x y u}(hx:l[i]?=I x)(ho:o<sz)(hy:(f y).flat=(f x).flat.set o u)(w:Bool):((bK f l).set (i*sz+o) (u,w)).map (·.1)=zb f (l.set i y):=by
 have h:=congrArg (Gm (·.1)) (q6m E.len hx ho hy)
 rw[List.map_set]at h ⊢
 rw[show(bK f (l.set i y)).map (·.1)=zb f (l.set i y)from z8]at h
 exact h
theorem Jv {α:Type}{f:α→AVal}{sz}(E:ph f sz){l i o x}(hx:l[i]?=I x)(ho:o<sz):i*sz+o<(bK f l).length:=by
 have h:=(D8 (n:=1) (o:=o) E.len hx (by omega)).2
 simp only[bK,cellsOf,Gr]
 omega
def H2 (c:Int)(nm k:List UInt8)(x:aX):Option aX:=cond (decide (c=0))
 (qa (HL x.dn nm) fun v=>I { x with dn:=v.1 })
 (qa (HG x.dn ⟨k,c⟩ nm) fun v=>I { x with dn:=v.1 })
theorem zhc {l:List aX}{i:Nat}{x y c nm k}(hx:l[i]?=I x)(h:H2 c nm k x=I y):
  ∃cs,ql pr (X pr) 213 [.ptr 0 (i*4+1),.ah (Iv c),.ah (.fn (.func 211) [] [.ah (.str nm)]),.ah (.str k)] [.cells (bK qu l)]=I (.aC [],En,[.cells cs])∧cs.map (·.1)=zb qu (l.set i y):=by
 unfold H2 at h
 have ld:zj (bK qu l) (i*4+1) 1=I [sl 2 bm x.dn]:=vG (o:=1) cE.len hx (by decide)
 have hb:=Jv cE (o:=1) hx (by decide)
 rcases qd h with⟨h1,h⟩|⟨h1,h⟩
 ·obtain⟨v,hv,h⟩:=qb h
  cases h
  have w:=zkb [.cells (bK qu l)] hv
  rcases v with⟨v,o⟩
  have hy:(qu { x with dn:=v }).flat=(qu x).flat.set 1 (sl 2 bm v):=rfl
  have st:jr (bK qu l) (i*4+1) [sl 2 bm v]=I (bK qu (l.set i { x with dn:=v })):=mH (o:=1) cE.len hx (Ga rfl) (by simp only[G6,go_sem,Gp]) rfl
  cases o with
  |true=>exact⟨_,by rw[qm (show pr.bM 213=I iT from rfl) (by simp)];simp only[go_sem,seval,iT,h1,ld,w,hb]<;>rfl,E2 cE hx (by decide) hy Gd⟩
  |false=>exact⟨_,by rw[qm (show pr.bM 213=I iT from rfl) (by simp)];simp only[go_sem,seval,iT,h1,ld,w,st]<;>rfl,z8⟩
 ·obtain⟨v,hv,h⟩:=qb h
  cases h
  have w:qc pr (X pr) 216 [sl 2 bm x.dn,.agg [.str k,Iv c],.fn (.func 211) [] [.ah (.str nm)]]=I (sl 2 bm v.1,v.2):=zc1 hv
  rcases v with⟨v,o⟩
  have hy:(qu { x with dn:=v }).flat=(qu x).flat.set 1 (sl 2 bm v):=rfl
  have st:jr (bK qu l) (i*4+1) [sl 2 bm v]=I (bK qu (l.set i { x with dn:=v })):=mH (o:=1) cE.len hx (Ga rfl) (by simp only[G6,go_sem,Gp]) rfl
  cases o with
  |true=>exact⟨_,by rw[qm (show pr.bM 213=I iT from rfl) (by simp)];simp only[go_sem,seval,iT,h1,ld,w,hb]<;>rfl,E2 cE hx (by decide) hy Gd⟩
  |false=>exact⟨_,by rw[qm (show pr.bM 213=I iT from rfl) (by simp)];simp only[go_sem,seval,iT,h1,ld,w,st]<;>rfl,z8⟩
def TN (l:Option (List aX))(i:Int)(c:Int)(nm k:List UInt8):Option (Option (List aX)):=gj l i (H2 c nm k)
theorem jgr {l i c nm k r}(h:TN l i c nm k=I r):qc pr (X pr) 221 [sl 4 qu l,Iv i,.fn (.func 270) [] [.ah (.fn (.func 213) [] [.ah (Iv c),.ah (.fn (.func 211) [] [.ah (.str nm)]),.ah (.str k)])]]=I (sl 4 qu r,En):=by
 refine XY (fun n x y hx hy=>?_) h
 obtain⟨cs,h1,h2⟩:=zhc hx hy
 exact⟨cs,by rw[qm (show pr.bM 270=I nQ from rfl) (by simp)];simp only[go_sem,seval,nQ,h1]<;>rfl,h2⟩
def H3 (t s:jf)(x:aX):Option aX:=qa (HJ x.dt t s) fun v=>I { x with dt:=v.1 }
theorem zis {l:List aX}{i:Nat}{x y t s}(hx:l[i]?=I x)(h:H3 t s x=I y):
  ∃cs,ql pr (X pr) 219 [.ptr 0 (i*4+1),.ah (q9 t),.ah (.fn (.func 217) [] [.ah (q9 s)])] [.cells (bK qu l)]=I (.aC [],En,[.cells cs])∧cs.map (·.1)=zb qu (l.set i y):=by
 unfold H3 at h
 have ld:zj (bK qu l) (i*4+1+1) 1=I [sl 3 q9 x.dt]:=vG (o:=2) cE.len hx (by decide)
 have hb:i*4+1+1<(bK qu l).length:=Jv cE (o:=2) hx (by decide)
 obtain⟨v,hv,h⟩:=qb h
 cases h
 have w:qc pr (X pr) 220 [sl 3 q9 x.dt,aT t,.fn (.func 217) [] [.ah (aT s)]]=I (sl 3 q9 v.1,v.2):=zc0 hv
 rcases v with⟨v,o⟩
 have hy:(qu { x with dt:=v }).flat=(qu x).flat.set 2 (sl 3 q9 v):=rfl
 have st:jr (bK qu l) (i*4+1+1) [sl 3 q9 v]=I (bK qu (l.set i { x with dt:=v })):=mH (o:=2) cE.len hx (Ga rfl) (by simp only[G6,go_sem,Gp]) rfl
 cases o with
 |true=>exact⟨_,by rw[qm (show pr.bM 219=I nR from rfl) (by simp)];simp only[go_sem,seval,nR,q9,ld,w,hb]<;>rfl,E2 cE (o:=2) hx (by decide) hy Gd⟩
 |false=>exact⟨_,by rw[qm (show pr.bM 219=I nR from rfl) (by simp)];simp only[go_sem,seval,nR,q9,ld,w,st]<;>rfl,z8⟩
def TP (l:Option (List aX))(i:Int)(t s:jf):Option (Option (List aX)):=gj l i (H3 t s)
theorem jjy {l i t s r}(h:TP l i t s=I r):qc pr (X pr) 221 [sl 4 qu l,Iv i,.fn (.func 270) [] [.ah (.fn (.func 219) [] [.ah (q9 t),.ah (.fn (.func 217) [] [.ah (q9 s)])])]]=I (sl 4 qu r,En):=by
 refine XY (fun n x y hx hy=>?_) h
 obtain⟨cs,h1,h2⟩:=zis hx hy
 simp only[jdc]at h1
 exact⟨cs,by rw[qm (show pr.bM 270=I nQ from rfl) (by simp)];simp only[go_sem,seval,nQ,h1]<;>rfl,h2⟩
def Mx (x:aX):Option aX:=qa (f224 ⟨x.dn,x.dt⟩) fun d=>qa (Mn x.aW d) fun v=>I { x with aW:=v }
theorem zj3 {l:List aX}{i:Nat}{x y}(hx:l[i]?=I x)(h:Mx x=I y):
  ∃cs,ql pr (X pr) 222 [.ptr 0 (i*4)] [.cells (bK qu l)]=I (.aC [],En,[.cells cs])∧cs.map (·.1)=zb qu (l.set i y):=by
 unfold Mx at h
 have ld:zj (bK qu l) (i*4+3) 1=I [sl 2 yd x.aW]:=vG (o:=3) cE.len hx (by decide)
 have X5:zj (bK qu l) (i*4+1) 2=I [sl 2 bm x.dn,sl 3 q9 x.dt]:=vG (o:=1) cE.len hx (by decide)
 have hb:i*4+3<(bK qu l).length:=Jv cE (o:=3) hx (by decide)
 obtain⟨d,hd,h⟩:=qb h
 obtain⟨v,hv,h⟩:=qb h
 cases h
 have w:qc pr (X pr) 224 [.agg [sl 2 bm x.dn,sl 3 q9 x.dt]]=I (aD d,En):=zet hd
 have w2:qc pr (X pr) 223 [sl 2 yd x.aW,aD d]=I (sl 2 yd v,Gd):=zjt hv
 have hy:(qu { x with aW:=v }).flat=(qu x).flat.set 3 (sl 2 yd v):=rfl
 exact⟨_,by rw[qm (show pr.bM 222=I s9 from rfl) (by simp)];simp only[go_sem,seval,s9,ld,X5,w,w2,hb]<;>rfl,E2 cE (o:=3) hx (by decide) hy Gd⟩
def Mw (l:Option (List aX))(i:Int):Option (Option (List aX)):=gj l i Mx
theorem jkc {l i r}(h:Mw l i=I r):qc pr (X pr) 221 [sl 4 qu l,Iv i,.fn (.func 222) [] []]=I (sl 4 qu r,En):=
 XY (fun n x y hx hy=>zj3 hx hy) h
def Ie (e:GEv)(x:aY):Option aY:=qa (qq (e.names.getD []) 1) fun n=>qa (qq (e.values.getD []) 1) fun b=>qa (Mq x.results ⟨n,x.version,b⟩) fun v=>I { x with results:=v }
theorem zh5 {l:List aY}{i:Nat}{x y e}(hx:l[i]?=I x)(h:Ie e x=I y):
  ∃cs,ql pr (X pr) 235 [.ptr 0 (i*8),.ah (vev e)] [.cells (bK bj l)]=I (.aC [],En,[.cells cs])∧cs.map (·.1)=zb bj (l.set i y):=by
 unfold Ie at h
 have ld:zj (bK bj l) (i*8+4) 1=I [sl 3 q9 x.results]:=vG (o:=4) ec.len hx (by decide)
 have X5:zj (bK bj l) (i*8+2) 1=I [Iv x.version]:=vG (o:=2) ec.len hx (by decide)
 have hb:i*8+4<(bK bj l).length:=Jv ec (o:=4) hx (by decide)
 obtain⟨n,hn,h⟩:=qb h
 obtain⟨b,DR,h⟩:=qb h
 obtain⟨v,hv,h⟩:=qb h
 cases h
 have w:qc pr (X pr) 236 [sl 3 q9 x.results,.agg [.str n,Iv x.version,Iv b]]=I (sl 3 q9 v,Gd):=zd6 hv
 have hy:(bj { x with results:=v }).flat=(bj x).flat.set 4 (sl 3 q9 v):=rfl
 exact⟨_,by rw[qm (show pr.bM 235=I tc from rfl) (by simp)];simp only[go_sem,seval,tc,vev,z7 hn,z7 DR,ld,X5,w,hb]<;>rfl,E2 ec (o:=4) hx (by decide) hy Gd⟩
def TW (l:Option (List aY))(i:Int)(e:GEv):Option (Option (List aY)):=gj l i (Ie e)
theorem jhi {l i e r}(h:TW l i e=I r):qc pr (X pr) 231 [sl 8 bj l,Iv i,.fn (.func 235) [] [.ah (vev e)]]=I (sl 8 bj r,En):=
 E1 (fun n x y hx hy=>zh5 hx hy) h
def zC (s:br)(t:ja)(x:aY):Option aY:=qa (HK x.uses s t) fun v=>I { x with uses:=v.1 }
theorem jyw {b0 b1 b2 dQ:bg}{l:List aY}{i x y s t}(hx:l[i]?=I x)(h:zC s t x=I y):
  ∃cs,ql pr (X pr) 232 [.ptr 5 (i*8),.ptr 4 0,.ah (.fn (.func 229) [] [.ah (jb t)])] [b0,b1,b2,dQ,.cells [(.str s.k,En),(Iv s.n,En)],.cells (bK bj l)]=I (.aC [],En,[b0,b1,b2,dQ,.cells [(.str s.k,En),(Iv s.n,En)],.cells cs])∧cs.map (·.1)=zb bj (l.set i y):=by
 unfold zC at h
 have ld:zj (bK bj l) (i*8+3) 1=I [sl 2 bm x.uses]:=vG (o:=3) ec.len hx (by decide)
 have hb:i*8+3<(bK bj l).length:=Jv ec (o:=3) hx (by decide)
 obtain⟨v,hv,h⟩:=qb h
 cases h
 have w:qc pr (X pr) 233 [sl 2 bm x.uses,aN s,.fn (.func 229) [] [.ah (aL t)]]=I (sl 2 bm v.1,v.2):=zga hv
 rcases v with⟨v,o⟩
 have hy:(bj { x with uses:=v }).flat=(bj x).flat.set 3 (sl 2 bm v):=rfl
 have st:jr (bK bj l) (i*8+3) [sl 2 bm v]=I (bK bj (l.set i { x with uses:=v })):=mH (o:=3) ec.len hx (Ga rfl) (by simp only[G6,go_sem,Gp]) rfl
 cases o with
 |true=>exact⟨_,by rw[qm (show pr.bM 232=I nS from rfl) (by simp)];simp only[go_sem,seval,nS,jb,ld,w,hb]<;>rfl,E2 ec (o:=3) hx (by decide) hy Gd⟩
 |false=>exact⟨_,by rw[qm (show pr.bM 232=I nS from rfl) (by simp)];simp only[go_sem,seval,nS,jb,ld,w,st]<;>rfl,z8⟩
end Go.Z
namespace Go.Z
open Go Go.Abs Go.W
def Bs {α:Type}(l:Option (List α))(i:Int)(x:α):Option (Option (List α)):=
 if(l.getD []).length≤1073741824∧0≤i∧i<(l.getD []).length then I (I ((l.getD []).set i.toNat x))else Gh
theorem X6 {α:Type}{l:Option (List α)}{i x r}(h:Bs l i x=I r):∃(n:Nat),i=(n:Int)∧(l.getD []).length≤1073741824∧n<(l.getD []).length∧r=I ((l.getD []).set n x):=by
 unfold Bs at h
 split at h
 ·rename_i hc
  cases h
  exact⟨i.toNat,(Int.toNat_of_nonneg hc.2.1).symm,hc.1,by omega,rfl⟩
 ·cases h
section
variable {α:Type}{f:α→AVal}{sz:Nat}{h:qh}
theorem jbv {l}:cellsOf ((l.map f).flatMap AVal.flat)=bK f l:=rfl
theorem X7 (E:ph f sz){n0 r b t l}(hl:(l.getD []).length≤1073741824)(hb:b≤4096){h'}(hh:aK n0 h r (.cells (bK f (l.getD [])))=I h'):BQ n0 r sz b h (I t) (I (.list En sz [])) (I (sl sz f l))=I ⟨.ms (n0+r) 0 (l.getD []).length,En,I t,h'⟩:=by
 have hs:zy sz (sl sz f l)=I ((l.getD []).map f):=S9
 have h1:0<sz:=by have:=E.big;omega
 simp only[BQ]
 rw[hs]
 simp only[Option.isSome_some,Gq,Gp,cond_true,Gr,Gl hl,Gl hb,G7.mpr h1,jbv,hh]
theorem X8 (E:ph f sz){l i y}(hi:i<l.length):jr (bK f l) (i*sz) (f y).flat=I (bK f (l.set i y)):=by
 have hx:l[i]?=I l[i]:=List.getElem?_eq_getElem hi
 have hl:=E.len l[i]
 have hly:=E.len y
 have:=mH (o:=0) (us:=(f y).flat) (y:=y) E.len hx (by omega) (E.sc y) (by rw[G9,Gz,Gs (by omega),G8])
 rw[Nat.add_zero]at this
 exact this
end
def zE (a0:au)(a1:Int)(x:ja):Option au:=qa (Bs a0.ar a1 x) fun v=>I { a0 with ar:=v }
theorem jtx {a0:au}{a1:Int}{x r}(h:zE a0 a1 x=I r):qc pr (X pr) 262 [aR a0,Iv a1,aL x]=I (aR r,En):=by
 obtain⟨v,hv,h⟩:=qb h
 cases h
 obtain⟨n,rfl,hl,hi,rfl⟩:=X6 hv
 have ap:BQ 2 0 5 56 [kR a0.day a0.ar a0.ae a0.units,kZ,.hole] (I 7) (I (.list En 5 [])) (I (sl 5 jb a0.ar))=I ⟨.ms 2 0 (a0.ar.getD []).length,En,I 7,[kR a0.day a0.ar a0.ae a0.units,kZ,.cells (bK jb (a0.ar.getD []))]⟩:=by apply X7 gm<;>first|exact hl|rfl|decide
 have st:jr (bK jb (a0.ar.getD [])) (n*5) [.str x.name,.str x.kind,Iv x.count,Iv x.left,.bool x.held]=I (bK jb ((a0.ar.getD []).set n x)):=X8 (y:=x) gm hi
 have this:ql pr (X pr) 262 [aR a0,Iv (n:Int),aL x] []=I (.agg [Iv a0.day,.ms 2 0 (a0.ar.getD []).length,sl 4 qu a0.ae,sl 8 bj a0.units],En,[.cells [(Iv a0.day,En),(.ms 2 0 (a0.ar.getD []).length,En),(sl 4 qu a0.ae,En),(sl 8 bj a0.units,En)],.cells [(Iv a0.day,En),(.ms 2 0 (a0.ar.getD []).length,En),(sl 4 qu a0.ae,En),(sl 8 bj a0.units,En)],.cells (bK jb ((a0.ar.getD []).set n x))]):=by
  rw[qm (show pr.bM 262=I tf from rfl) (by simp)]
  simp only[go_sem,seval,tf,ap,vZ hi,st]<;>rfl
 have fz:ko [.cells [(Iv a0.day,En),(.ms 2 0 (a0.ar.getD []).length,En),(sl 4 qu a0.ae,En),(sl 8 bj a0.units,En)],.cells [(Iv a0.day,En),(.ms 2 0 (a0.ar.getD []).length,En),(sl 4 qu a0.ae,En),(sl 8 bj a0.units,En)],.cells (bK jb ((a0.ar.getD []).set n x))] (.ms 2 0 (a0.ar.getD []).length)=I (sl 5 jb (I ((a0.ar.getD []).set n x))):=by
  have:=vY gm (l:=(a0.ar.getD []).set n x) (by rw[Gi];omega) (cs:=bK jb ((a0.ar.getD []).set n x)) z8
  rw[Gi]at this
  exact this
 refine zx rfl this (v':=.agg [Iv a0.day,sl 5 jb (I ((a0.ar.getD []).set n x)),sl 4 qu a0.ae,sl 8 bj a0.units]) ?_ (by first|rfl|simp only[go_sem,seval])
 rw[Tg]
 simp only[go_sem,seval,fz]<;>rfl
def zF (a0:au)(a1:Int)(x:aX):Option au:=qa (Bs a0.ae a1 x) fun v=>I { a0 with ae:=v }
theorem zc6 {a0:au}{a1:Int}{x r}(h:zF a0 a1 x=I r):qc pr (X pr) 261 [aR a0,Iv a1,aP x]=I (aR r,En):=by
 obtain⟨v,hv,h⟩:=qb h
 cases h
 obtain⟨n,rfl,hl,hi,rfl⟩:=X6 hv
 have ap:BQ 2 0 4 88 [kR a0.day a0.ar a0.ae a0.units,kZ,.hole] (I 7) (I (.list En 4 [])) (I (sl 4 qu a0.ae))=I ⟨.ms 2 0 (a0.ae.getD []).length,En,I 7,[kR a0.day a0.ar a0.ae a0.units,kZ,.cells (bK qu (a0.ae.getD []))]⟩:=by apply X7 cE<;>first|exact hl|rfl|decide
 have st:jr (bK qu (a0.ae.getD [])) (n*4) [.str x.name,sl 2 bm x.dn,sl 3 q9 x.dt,sl 2 yd x.aW]=I (bK qu ((a0.ae.getD []).set n x)):=X8 (y:=x) cE hi
 have this:ql pr (X pr) 261 [aR a0,Iv (n:Int),aP x] []=I (.agg [Iv a0.day,sl 5 jb a0.ar,.ms 2 0 (a0.ae.getD []).length,sl 8 bj a0.units],En,[.cells [(Iv a0.day,En),(sl 5 jb a0.ar,En),(.ms 2 0 (a0.ae.getD []).length,En),(sl 8 bj a0.units,En)],.cells [(Iv a0.day,En),(sl 5 jb a0.ar,En),(.ms 2 0 (a0.ae.getD []).length,En),(sl 8 bj a0.units,En)],.cells (bK qu ((a0.ae.getD []).set n x))]):=by
  rw[qm (show pr.bM 261=I ti from rfl) (by simp)]
  simp only[go_sem,seval,ti,ap,vZ hi,st]<;>rfl
 have fz:ko [.cells [(Iv a0.day,En),(sl 5 jb a0.ar,En),(.ms 2 0 (a0.ae.getD []).length,En),(sl 8 bj a0.units,En)],.cells [(Iv a0.day,En),(sl 5 jb a0.ar,En),(.ms 2 0 (a0.ae.getD []).length,En),(sl 8 bj a0.units,En)],.cells (bK qu ((a0.ae.getD []).set n x))] (.ms 2 0 (a0.ae.getD []).length)=I (sl 4 qu (I ((a0.ae.getD []).set n x))):=by
  have:=vY cE (l:=(a0.ae.getD []).set n x) (by rw[Gi];omega) (cs:=bK qu ((a0.ae.getD []).set n x)) z8
  rw[Gi]at this
  exact this
 refine zx rfl this (v':=.agg [Iv a0.day,sl 5 jb a0.ar,sl 4 qu (I ((a0.ae.getD []).set n x)),sl 8 bj a0.units]) ?_ (by first|rfl|simp only[go_sem,seval])
 rw[Tg]
 simp only[go_sem,seval,fz]<;>rfl
def f267 (a0:au)(a1:Int)(x:aY):Option au:=qa (Bs a0.units a1 x) fun v=>I { a0 with units:=v }
theorem X9 {a0:au}{a1:Int}{x r}(h:f267 a0 a1 x=I r):qc pr (X pr) 267 [aR a0,Iv a1,aU x]=I (aR r,En):=by
 obtain⟨v,hv,h⟩:=qb h
 cases h
 obtain⟨n,rfl,hl,hi,rfl⟩:=X6 hv
 have ap:BQ 2 0 8 120 [kR a0.day a0.ar a0.ae a0.units,kZ,.hole] (I 7) (I (.list En 8 [])) (I (sl 8 bj a0.units))=I ⟨.ms 2 0 (a0.units.getD []).length,En,I 7,[kR a0.day a0.ar a0.ae a0.units,kZ,.cells (bK bj (a0.units.getD []))]⟩:=by apply X7 ec<;>first|exact hl|rfl|decide
 have st:jr (bK bj (a0.units.getD [])) (n*8) [.str x.name,.str x.product,Iv x.version,sl 2 bm x.uses,sl 3 q9 x.results,.str x.partner,.bool x.aj,Iv x.ak]=I (bK bj ((a0.units.getD []).set n x)):=X8 (y:=x) ec hi
 have this:ql pr (X pr) 267 [aR a0,Iv (n:Int),aU x] []=I (.agg [Iv a0.day,sl 5 jb a0.ar,sl 4 qu a0.ae,.ms 2 0 (a0.units.getD []).length],En,[.cells [(Iv a0.day,En),(sl 5 jb a0.ar,En),(sl 4 qu a0.ae,En),(.ms 2 0 (a0.units.getD []).length,En)],.cells [(Iv a0.day,En),(sl 5 jb a0.ar,En),(sl 4 qu a0.ae,En),(.ms 2 0 (a0.units.getD []).length,En)],.cells (bK bj ((a0.units.getD []).set n x))]):=by
  rw[qm (show pr.bM 267=I tj from rfl) (by simp)]
  simp only[go_sem,seval,tj,ap,vZ hi,st]<;>rfl
 have fz:ko [.cells [(Iv a0.day,En),(sl 5 jb a0.ar,En),(sl 4 qu a0.ae,En),(.ms 2 0 (a0.units.getD []).length,En)],.cells [(Iv a0.day,En),(sl 5 jb a0.ar,En),(sl 4 qu a0.ae,En),(.ms 2 0 (a0.units.getD []).length,En)],.cells (bK bj ((a0.units.getD []).set n x))] (.ms 2 0 (a0.units.getD []).length)=I (sl 8 bj (I ((a0.units.getD []).set n x))):=by
  have:=vY ec (l:=(a0.units.getD []).set n x) (by rw[Gi];omega) (cs:=bK bj ((a0.units.getD []).set n x)) z8
  rw[Gi]at this
  exact this
 refine zx rfl this (v':=.agg [Iv a0.day,sl 5 jb a0.ar,sl 4 qu a0.ae,sl 8 bj (I ((a0.units.getD []).set n x))]) ?_ (by first|rfl|simp only[go_sem,seval])
 rw[Tg]
 simp only[go_sem,seval,fz]<;>rfl
end Go.Z
namespace Go.Z
open Go Go.Abs Go.W
def Bt (a0:Option (List br))(a1:br)(s0:(Option (List br))×Bool×Int×Bool):Option (((Option (List br))×Bool×Int×Bool)⊕(((Option (List br))×Bool×Bool×Int))):=
 cond (decide (s0.2.2.1<((a0.getD []).length:Int)))
  (qa (qq (a0.getD []) s0.2.2.1) fun v24=>
  cond (decide (v24.k=a1.k))
   (cond (decide (0<a1.n))
    (cond s0.2.2.2
     (qa (bH s0.1 [a1]) fun fb=>
     I (.inl (fb,Gd,qe .i64 (s0.2.2.1+1),Gd)))
     (cond s0.1.isNone
      (qa (bH s0.1 [a1]) fun lD=>
      I (.inl (lD,Gd,qe .i64 (s0.2.2.1+1),Gd)))
      (Gh)))
    (I (.inl (s0.1,Gd,qe .i64 (s0.2.2.1+1),s0.2.2.2))))
   (cond s0.2.2.2
    (qa (bH s0.1 [v24]) fun tm=>
    I (.inl (tm,s0.2.1,qe .i64 (s0.2.2.1+1),Gd)))
    (cond s0.1.isNone
     (qa (bH s0.1 [v24]) fun Cf=>
     I (.inl (Cf,s0.2.1,qe .i64 (s0.2.2.1+1),Gd)))
     (Gh))))
  (I (.inr (s0.1,s0.2.2.2,s0.2.1,s0.2.2.1)))
def NY (a0:Option (List br))(a1:br)(s0:(Option (List br))×Bool×Int×Bool):bf:=⟨[(0,sl 2 bm a0,En),(3,.ah (aN a1),En),(5,sl 2 bm s0.1,s0.2.2.2),(6,.bool s0.2.1,En),(7,Iv s0.2.2.1,En)],[]⟩
def NZ (a0:Option (List br))(a1:br)(d:((Option (List br))×Bool×Bool×Int)):jg×bf:=(.exit 0,⟨[(0,sl 2 bm a0,En),(3,.ah (aN a1),En),(5,sl 2 bm d.1,d.2.1),(6,.bool d.2.2.1,En),(7,Iv d.2.2.2,En),(11,.bool En,En)],[]⟩)
theorem jv6 (a0:Option (List br))(a1:br)(s0:(Option (List br))×Bool×Int×Bool)(r)(h:Bt a0 a1 s0=I r):jz pr N0 (NY a0 a1) (NZ a0 a1) s0 r:=by
 unfold Bt at h
 repeat' first|(replace h:=qb h;obtain⟨d,g,h⟩:=h;with_reducible first|replace g:=Bf g|skip)|(replace h:=qd h;rcases h with⟨g,h⟩|⟨g,h⟩)
 all_goals (cases h<;>((first|refine qz ?_|refine ju ?_);simp only[go_sem,seval,N0,NY,jh,NZ, *]<;>rfl))
theorem jry (a0:Option (List br))(a1:br){s0 d}(h:bz (Bt a0 a1) s0=I d):X pr (.loop N0) (NY a0 a1 s0)=I (NZ a0 a1 d):=zn (jv6 a0 a1) h
def HW (a0:Option (List br))(a1:br):Option ((Option (List br))×Bool):=
 qa (bz (Bt a0 a1) (Gh,En,0,En)) fun d40=>
 cond d40.2.2.1
  (I (d40.1,d40.2.1))
  (cond (decide (0<a1.n))
   (cond d40.2.1
    (qa (bH d40.1 [a1]) fun zU=>
    I (zU,Gd))
    (cond d40.1.isNone
     (qa (bH d40.1 [a1]) fun Ya=>
     I (Ya,Gd))
     (Gh)))
   (I (d40.1,d40.2.1)))
theorem zeo {a0 a1 r}(h:HW a0 a1=I r):qc pr (X pr) 259 [sl 2 bm a0,aN a1]=I (sl 2 bm r.1,r.2):=by
 unfold HW at h
 refine y5 xg ?_
 repeat' first|(replace h:=qb h;obtain⟨d,g,h⟩:=h;with_reducible first|replace g:=Bf g|(replace g:=jry a0 a1 g;dsimp only[NY,NZ,zm]at g h)|skip)|(replace h:=qd h;rcases h with⟨g,h⟩|⟨g,h⟩)
 all_goals (cases h<;>(simp only[go_sem,seval,xg, *];exact⟨_,rfl⟩))
def Bu (a0:Option (List jf))(a1:jf)(s0:(Option (List jf))×Bool×Int×Bool):Option (((Option (List jf))×Bool×Int×Bool)⊕(((Option (List jf))×Bool×Bool×Int))):=
 cond (decide (s0.2.2.1<((a0.getD []).length:Int)))
  (qa (qq (a0.getD []) s0.2.2.1) fun v22=>
  cond (decide (v22.k=a1.k))
   (cond s0.2.2.2
    (qa (bH s0.1 [a1]) fun v26=>
    I (.inl (v26,Gd,qe .i64 (s0.2.2.1+1),Gd)))
    (cond s0.1.isNone
     (qa (bH s0.1 [a1]) fun fb=>
     I (.inl (fb,Gd,qe .i64 (s0.2.2.1+1),Gd)))
     (Gh)))
   (cond s0.2.2.2
    (qa (bH s0.1 [v22]) fun lD=>
    I (.inl (lD,s0.2.1,qe .i64 (s0.2.2.1+1),Gd)))
    (cond s0.1.isNone
     (qa (bH s0.1 [v22]) fun tm=>
     I (.inl (tm,s0.2.1,qe .i64 (s0.2.2.1+1),Gd)))
     (Gh))))
  (I (.inr (s0.1,s0.2.2.2,s0.2.1,s0.2.2.1)))
def N1 (a0:Option (List jf))(a1:jf)(s0:(Option (List jf))×Bool×Int×Bool):bf:=⟨[(0,sl 3 q9 a0,En),(3,.ah (aT a1),En),(5,sl 3 q9 s0.1,s0.2.2.2),(6,.bool s0.2.1,En),(7,Iv s0.2.2.1,En)],[]⟩
def N2 (a0:Option (List jf))(a1:jf)(d:((Option (List jf))×Bool×Bool×Int)):jg×bf:=(.exit 0,⟨[(0,sl 3 q9 a0,En),(3,.ah (aT a1),En),(5,sl 3 q9 d.1,d.2.1),(6,.bool d.2.2.1,En),(7,Iv d.2.2.2,En),(11,.bool En,En)],[]⟩)
theorem jxr (a0:Option (List jf))(a1:jf)(s0:(Option (List jf))×Bool×Int×Bool)(r)(h:Bu a0 a1 s0=I r):jz pr N3 (N1 a0 a1) (N2 a0 a1) s0 r:=by
 unfold Bu at h
 repeat' first|(replace h:=qb h;obtain⟨d,g,h⟩:=h;with_reducible first|replace g:=D9 g|skip)|(replace h:=qd h;rcases h with⟨g,h⟩|⟨g,h⟩)
 all_goals (cases h<;>((first|refine qz ?_|refine ju ?_);simp only[go_sem,seval,N3,N1,jh,N2, *]<;>rfl))
theorem jym (a0:Option (List jf))(a1:jf){s0 d}(h:bz (Bu a0 a1) s0=I d):X pr (.loop N3) (N1 a0 a1 s0)=I (N2 a0 a1 d):=zn (jxr a0 a1) h
def f260 (a0:Option (List jf))(a1:jf):Option ((Option (List jf))×Bool):=
 qa (bz (Bu a0 a1) (Gh,En,0,En)) fun d37=>
 cond d37.2.2.1
  (I (d37.1,d37.2.1))
  (cond d37.2.1
   (qa (bH d37.1 [a1]) fun Cg=>
   I (Cg,Gd))
   (cond d37.1.isNone
    (qa (bH d37.1 [a1]) fun Ch=>
    I (Ch,Gd))
    (Gh)))
theorem zb5 {a0 a1 r}(h:f260 a0 a1=I r):qc pr (X pr) 260 [sl 3 q9 a0,aT a1]=I (sl 3 q9 r.1,r.2):=by
 unfold f260 at h
 refine y5 xh ?_
 repeat' first|(replace h:=qb h;obtain⟨d,g,h⟩:=h;with_reducible first|replace g:=D9 g|(replace g:=jym a0 a1 g;dsimp only[N1,N2,zm]at g h)|skip)|(replace h:=qd h;rcases h with⟨g,h⟩|⟨g,h⟩)
 all_goals (cases h<;>(simp only[go_sem,seval,xh, *];exact⟨_,rfl⟩))
def Bv (a0:Option (List br))(a1:List UInt8)(a2:Int)(s0:(Option (List br))×Bool×Int×Bool):Option (((Option (List br))×Bool×Int×Bool)⊕(((Option (List br))×Bool×Bool×Int))):=
 cond (decide (s0.2.2.1<((a0.getD []).length:Int)))
  (qa (qq (a0.getD []) s0.2.2.1) fun v22=>
  cond (decide (v22.k=a1))
   (cond s0.2.2.2
    (qa (bH s0.1 [⟨v22.k,qe .i64 (v22.n+a2)⟩]) fun v26=>
    I (.inl (v26,Gd,qe .i64 (s0.2.2.1+1),Gd)))
    (cond s0.1.isNone
     (qa (bH s0.1 [⟨v22.k,qe .i64 (v22.n+a2)⟩]) fun fb=>
     I (.inl (fb,Gd,qe .i64 (s0.2.2.1+1),Gd)))
     (Gh)))
   (cond s0.2.2.2
    (qa (bH s0.1 [v22]) fun lD=>
    I (.inl (lD,s0.2.1,qe .i64 (s0.2.2.1+1),Gd)))
    (cond s0.1.isNone
     (qa (bH s0.1 [v22]) fun tm=>
     I (.inl (tm,s0.2.1,qe .i64 (s0.2.2.1+1),Gd)))
     (Gh))))
  (I (.inr (s0.1,s0.2.2.2,s0.2.1,s0.2.2.1)))
def Ci (a0:Option (List br))(a1:List UInt8)(a2:Int)(s0:(Option (List br))×Bool×Int×Bool):bf:=⟨[(0,sl 2 bm a0,En),(1,.str a1,En),(2,Iv a2,En),(7,sl 2 bm s0.1,s0.2.2.2),(8,.bool s0.2.1,En),(9,Iv s0.2.2.1,En)],[]⟩
def Jw (a0:Option (List br))(a1:List UInt8)(a2:Int)(d:((Option (List br))×Bool×Bool×Int)):jg×bf:=(.exit 0,⟨[(0,sl 2 bm a0,En),(1,.str a1,En),(2,Iv a2,En),(7,sl 2 bm d.1,d.2.1),(8,.bool d.2.2.1,En),(9,Iv d.2.2.2,En),(14,.bool En,En)],[]⟩)
theorem jxo (a0:Option (List br))(a1:List UInt8)(a2:Int)(s0:(Option (List br))×Bool×Int×Bool)(r)(h:Bv a0 a1 a2 s0=I r):jz pr Jx (Ci a0 a1 a2) (Jw a0 a1 a2) s0 r:=by
 unfold Bv at h
 repeat' first|(replace h:=qb h;obtain⟨d,g,h⟩:=h;with_reducible first|replace g:=Bf g|skip)|(replace h:=qd h;rcases h with⟨g,h⟩|⟨g,h⟩)
 all_goals (cases h<;>(first|(refine qz ?_;simp only[go_sem,seval,Jx,Ci,jh,Jw, *]<;>rfl)|(refine q8j ?_ rfl (by first|simp only[go_sem,seval,Ci]|rfl) (by first|simp only[go_sem,seval,Ci]|rfl);simp only[go_sem,seval,Jx,Ci,jh,Jw, *];exact⟨_,rfl⟩)))
theorem jx0 (a0:Option (List br))(a1:List UInt8)(a2:Int){s0 d}(h:bz (Bv a0 a1 a2) s0=I d):X pr (.loop Jx) (Ci a0 a1 a2 s0)=I (Jw a0 a1 a2 d):=zn (jxo a0 a1 a2) h
def HX (a0:Option (List br))(a1:List UInt8)(a2:Int):Option ((Option (List br))×Bool):=
 qa (bz (Bv a0 a1 a2) (Gh,En,0,En)) fun d37=>
 cond d37.2.2.1
  (I (d37.1,d37.2.1))
  (cond d37.2.1
   (qa (bH d37.1 [⟨a1,a2⟩]) fun Cg=>
   I (Cg,Gd))
   (cond d37.1.isNone
    (qa (bH d37.1 [⟨a1,a2⟩]) fun Ch=>
    I (Ch,Gd))
    (Gh)))
theorem zce {a0 a1 a2 r}(h:HX a0 a1 a2=I r):qc pr (X pr) 298 [sl 2 bm a0,.str a1,Iv a2]=I (sl 2 bm r.1,r.2):=by
 unfold HX at h
 refine y5 xi ?_
 repeat' first|(replace h:=qb h;obtain⟨d,g,h⟩:=h;with_reducible first|replace g:=Bf g|(replace g:=jx0 a0 a1 a2 g;dsimp only[Ci,Jw,zm]at g h)|skip)|(replace h:=qd h;rcases h with⟨g,h⟩|⟨g,h⟩)
 all_goals (cases h<;>(simp only[go_sem,seval,xi, *];exact⟨_,rfl⟩))
def sg (a0:au)(a1:GEv):Option (au×Int):=
 qa (qq (a1.names.getD []) 0) fun v1=>
 cond (decide (a1.kind=([108,111,116]:List UInt8)))
  (qa (wO a0 v1) fun v4=>
  cond (decide (0≤v4))
   (I (a0,9))
   (qa (qq (a1.values.getD []) 1) fun v7=>
   qa (f88 v7 1 10000) fun v9=>
   cond v9
    (I (a0,3))
    (cond (decide (64≤((a0.ar.getD []).length:Int)))
     (I (a0,5))
     (qa (bH (I []) (a0.ar.getD [])) fun ey=>
     qa (qq (a1.names.getD []) 1) fun fk=>
     qa (bH ey [⟨v1,fk,v7,v7,En⟩]) fun ew=>
     I (⟨a0.day,ew,a0.ae,a0.units⟩,0)))))
  (cond (decide (a1.kind=([112,114,111,100,117,99,116]:List UInt8)))
   (qa (wP a0 v1) fun v20=>
   cond (decide (0≤v20))
    (I (a0,9))
    (cond (decide (16≤((a0.ae.getD []).length:Int)))
     (I (a0,5))
     (qa (bH (I []) (a0.ae.getD [])) fun v24=>
     qa (bH v24 [⟨v1,Gh,Gh,Gh⟩]) fun v26=>
     I (⟨a0.day,a0.ar,v26,a0.units⟩,0))))
   (qa (qq (a1.names.getD []) 1) fun v28=>
   qa (wP a0 v28) fun v30=>
   cond (decide (v30<0))
    (I (a0,10))
    (qa (Bh a0 v1) fun l6=>
    cond (decide (0≤l6))
     (I (a0,9))
     (qa (qq (a0.ae.getD []) v30) fun zV=>
     cond (decide (((zV.aW.getD []).length:Int)=0))
      (I (a0,32))
      (cond (decide (256≤((a0.units.getD []).length:Int)))
       (I (a0,5))
       (qa (bH (I []) (a0.units.getD [])) fun v40=>
       qa (bH v40 [⟨v1,v28,((zV.aW.getD []).length:Int),Gh,Gh,[],En,0⟩]) fun Jy=>
       I (⟨a0.day,a0.ar,a0.ae,Jy⟩,0)))))))
theorem zhm {a0 a1 r}(h:sg a0 a1=I r):qc pr (X pr) 199 [aR a0,aE a1]=I (.aC [aR r.1,Iv r.2],En):=by
 unfold sg at h
 refine zi xj ?_
 repeat' first|(replace h:=qb h;obtain⟨d,g,h⟩:=h; (with_reducible first|replace g:=Jz g|replace g:=Yb g|replace g:=N4 g|replace g:=Yc g|replace g:=Tx g|replace g:=q3m g|replace g:=L6 g|skip);try dsimp only[zm,jB,Gm,zw,jd,jb,qu,bj,zh,vev,bm,q9,yd,aE,aR,aU,aL,aP,aD]at g)|(replace h:=qd h;rcases h with⟨g,h⟩|⟨g,h⟩)
 all_goals (cases h<;>(simp only[go_sem,seval,xj,jh,kx, *];exact⟨_,rfl⟩))
end Go.Z
namespace Go.Z
open Go Go.Abs Go.W
def Bw (a1:List UInt8)(dJ:Int)(dz:List UInt8)(xk:List UInt8)(aV:Int)(aQ:Option (List ja))(aO:Option (List aX))(aA:Option (List aY)):Option (Option (List aX)):=
 qa (ov (⟨aV,aQ,aO,aA⟩) a1) fun v1=>
 qa (TN aO v1 dJ dz xk) fun v3=>
 I v3
theorem j7h {a1 dJ dz xk aV aQ aO aA x1 x2 x3 r}(h:Bw a1 dJ dz xk aV aQ aO aA=I r):ql pr (X pr) 212 [.ptr 0 0,.str a1,.fn (.func 213) [] [.ah (Iv dJ),.ah (.fn (.func 211) [] [.ah (.str dz)]),.ah (.str xk)]] [kR aV aQ aO aA,x1,x2,x3]=I (.aC [],En,[kR aV aQ r aA,x1,x2,x3]):=by
 unfold Bw at h
 rw[qm (show pr.bM 212=I nT from rfl) (by simp)]
 repeat' first|(replace h:=qb h;obtain⟨d,g,h⟩:=h;with_reducible first|replace g:=wc g|replace g:=jgr g|skip)|(replace h:=qd h;rcases h with⟨g,h⟩|⟨g,h⟩)
 all_goals (cases h<;>(simp only[go_sem,seval,nT, *]<;>rfl))
def Er (a1:List UInt8)(dJ:jf)(dz:jf)(aV:Int)(aQ:Option (List ja))(aO:Option (List aX))(aA:Option (List aY)):Option (Option (List aX)):=
 qa (ov (⟨aV,aQ,aO,aA⟩) a1) fun v1=>
 qa (TP aO v1 dJ dz) fun v3=>
 I v3
theorem j3a {a1 dJ dz aV aQ aO aA x1 x2 x3 r}(h:Er a1 dJ dz aV aQ aO aA=I r):ql pr (X pr) 212 [.ptr 0 0,.str a1,.fn (.func 219) [] [.ah (aT dJ),.ah (.fn (.func 217) [] [.ah (aT dz)])]] [kR aV aQ aO aA,x1,x2,x3]=I (.aC [],En,[kR aV aQ r aA,x1,x2,x3]):=by
 unfold Er at h
 obtain⟨v1,h2,h⟩:=qb h
 have jD:qc pr (X pr) 161 [aG aV aQ aO aA,.str a1]=I (Iv v1,En):=wc h2
 obtain⟨v3,h4,h⟩:=qb h
 have wh:qc pr (X pr) 221 [sl 4 qu aO,Iv v1,.fn (.func 270) [] [.ah (.fn (.func 219) [] [.ah (aT dJ),.ah (.fn (.func 217) [] [.ah (aT dz)])])]]=I (sl 4 qu v3,En):=jjy h4
 have hr:v3=r:=I.inj h
 subst hr
 rw[qm (show pr.bM 212=I nT from rfl) (by simp)]
 simp only[go_sem,seval,nT,jD,wh]<;>rfl
def HZ (a1:GEv)(aV:Int)(aQ:Option (List ja))(aO:Option (List aX))(aA:Option (List aY)):Option (Int×(Option (List ja))×Bool):=
 qa (qq (a1.names.getD []) 0) fun v1=>
 qa (f64 (⟨aV,aQ,aO,aA⟩) v1) fun v3=>
 qa (f48 (decide (0≤v3)) 9) fun v5=>
 qa (qq (a1.values.getD []) 1) fun v7=>
 qa (f60 v7 1 10000) fun v9=>
 qa (f48 (decide (64≤((aQ.getD []).length:Int))) 5) fun v11=>
 qa (f46 (I [v5,v9,v11])) fun ey=>
 cond (decide (ey=0))
  (qa (qq (a1.names.getD []) 1) fun dD=>
  qa (Ml aQ (⟨v1,dD,v7,v7,En⟩)) fun jE=>
  I (0,jE,Gd))
  (I (ey,aQ,En))
theorem zfi {a1 aV aQ aO aA x1 x2 x3 r}(h:HZ a1 aV aQ aO aA=I r):ql pr (X pr) 168 [.ptr 0 0,aE a1] [kR aV aQ aO aA,x1,x2,x3]=I (Iv r.1,En,[kS aV r.2.1 r.2.2 aO En aA En,x1,x2,x3]):=by
 unfold HZ at h
 rw[qm (show pr.bM 168=I tn from rfl) (by simp)]
 repeat' first|(replace h:=qb h;obtain⟨d,g,h⟩:=h; (with_reducible first|replace g:=Cj g|replace g:=fP g|replace g:=N5 g|replace g:=l7 g|replace g:=ziw g|skip);try dsimp only[zm,jB,Gm,zw,jd,jb,qu,bj,zh,vev,bm,q9,yd,aE,aR,aU,aL,aP,aD]at g)|(replace h:=qd h;rcases h with⟨g,h⟩|⟨g,h⟩)
 all_goals (cases h<;>(simp only[go_sem,seval,tn,jh, *]<;>rfl))
def f169 (a1:GEv)(aV:Int)(aQ:Option (List ja))(aO:Option (List aX))(aA:Option (List aY)):Option (Int×(Option (List aX))×Bool):=
 qa (qq (a1.names.getD []) 0) fun v1=>
 qa (ov (⟨aV,aQ,aO,aA⟩) v1) fun v3=>
 qa (f48 (decide (0≤v3)) 9) fun v5=>
 qa (f48 (decide (16≤((aO.getD []).length:Int))) 5) fun v7=>
 qa (f46 (I [v5,v7])) fun v9=>
 cond (decide (v9=0))
  (qa (Mm aO (⟨v1,Gh,Gh,Gh⟩)) fun v12=>
  I (0,v12,Gd))
  (I (v9,aO,En))
theorem zej {a1 aV aQ aO aA x1 x2 x3 r}(h:f169 a1 aV aQ aO aA=I r):ql pr (X pr) 169 [.ptr 0 0,aE a1] [kR aV aQ aO aA,x1,x2,x3]=I (Iv r.1,En,[kS aV aQ En r.2.1 r.2.2 aA En,x1,x2,x3]):=by
 unfold f169 at h
 rw[qm (show pr.bM 169=I tq from rfl) (by simp)]
 repeat' first|(replace h:=qb h;obtain⟨d,g,h⟩:=h; (with_reducible first|replace g:=wc g|replace g:=fP g|replace g:=l7 g|replace g:=zcm g|skip);try dsimp only[zm,jB,Gm,zw,jd,jb,qu,bj,zh,vev,bm,q9,yd,aE,aR,aU,aL,aP,aD]at g)|(replace h:=qd h;rcases h with⟨g,h⟩|⟨g,h⟩)
 all_goals (cases h<;>(simp only[go_sem,seval,tq,jh, *]<;>rfl))
def f170 (a1:GEv)(aV:Int)(aQ:Option (List ja))(aO:Option (List aX))(aA:Option (List aY)):Option (Int×(Option (List aX))):=
 qa (qq (a1.names.getD []) 1) fun v1=>
 qa (qq (a1.values.getD []) 1) fun v3=>
 qa (qq (a1.names.getD []) 0) fun v5=>
 qa (ov (⟨aV,aQ,aO,aA⟩) v5) fun v7=>
 qa (qq (aO.getD []) v7) fun v9=>
 qa (f60 v3 0 10000) fun v11=>
 cond (decide (0<v3))
  (qa (HN v9.dn v1) fun ef=>
  cond ef
   (qa (f48 En 5) fun ew=>
   qa (f46 (I [v11,ew])) fun l4=>
   cond (decide (l4=0))
    (qa (Bw v5 v3 v1 v1 aV aQ aO aA) fun v22=>
    I (0,v22))
    (I (l4,aO)))
   (qa (f48 (decide (16≤((v9.dn.getD []).length:Int))) 5) fun v24=>
   qa (f46 (I [v11,v24])) fun v26=>
   cond (decide (v26=0))
    (qa (Bw v5 v3 v1 v1 aV aQ aO aA) fun fb=>
    I (0,fb))
    (I (v26,aO))))
  (qa (f48 En 5) fun v31=>
  qa (f46 (I [v11,v31])) fun l6=>
  cond (decide (l6=0))
   (qa (Bw v5 v3 v1 v1 aV aQ aO aA) fun zV=>
   I (0,zV))
   (I (l6,aO)))
theorem zcc {a1 aV aQ aO aA x1 x2 x3 r}(h:f170 a1 aV aQ aO aA=I r):ql pr (X pr) 170 [.ptr 0 0,aE a1] [kR aV aQ aO aA,x1,x2,x3]=I (Iv r.1,En,[kR aV aQ r.2 aA,x1,x2,x3]):=by
 unfold f170 at h
 rw[qm (show pr.bM 170=I tr from rfl) (by simp)]
 repeat' first|(replace h:=qb h;obtain⟨d,g,h⟩:=h; (with_reducible first|replace g:=wc g|replace g:=N5 g|replace g:=j5n g|replace g:=fP g|replace g:=l7 g|replace g:=j7h (x1:=x1) (x2:=x2) (x3:=x3) g|skip);try dsimp only[zm,jB,Gm,zw,jd,jb,qu,bj,zh,vev,bm,q9,yd,aE,aR,aU,aL,aP,aD]at g)|(replace h:=qd h;rcases h with⟨g,h⟩|⟨g,h⟩)
 all_goals (cases h<;>(simp only[go_sem,seval,tr,jh, *]<;>rfl))
def f171 (a1:GEv)(aV:Int)(aQ:Option (List ja))(aO:Option (List aX))(aA:Option (List aY)):Option (Int×(Option (List aX))):=
 qa (qq (a1.names.getD []) 1) fun v1=>
 qa (qq (a1.values.getD []) 1) fun v3=>
 qa (qq (a1.values.getD []) 2) fun v5=>
 qa (qq (a1.names.getD []) 0) fun v7=>
 qa (ov (⟨aV,aQ,aO,aA⟩) v7) fun v9=>
 qa (qq (aO.getD []) v9) fun v11=>
 qa (f48 (decide (v5<v3)) 11) fun ey=>
 qa (HR v11.dt (⟨v1,v3,v5⟩)) fun fk=>
 cond fk
  (qa (f48 En 5) fun jE=>
  qa (f46 (I [ey,jE])) fun v20=>
  cond (decide (v20=0))
   (qa (Er v7 (⟨v1,v3,v5⟩) (⟨v1,v3,v5⟩) aV aQ aO aA) fun v23=>
   I (0,v23))
   (I (v20,aO)))
  (qa (f48 (decide (16≤((v11.dt.getD []).length:Int))) 5) fun v25=>
  qa (f46 (I [ey,v25])) fun dW=>
  cond (decide (dW=0))
   (qa (Er v7 (⟨v1,v3,v5⟩) (⟨v1,v3,v5⟩) aV aQ aO aA) fun v30=>
   I (0,v30))
   (I (dW,aO)))
theorem zbo {a1 aV aQ aO aA x1 x2 x3 r}(h:f171 a1 aV aQ aO aA=I r):ql pr (X pr) 171 [.ptr 0 0,aE a1] [kR aV aQ aO aA,x1,x2,x3]=I (Iv r.1,En,[kR aV aQ r.2 aA,x1,x2,x3]):=by
 unfold f171 at h
 rw[qm (show pr.bM 171=I tu from rfl) (by simp)]
 repeat' first|(replace h:=qb h;obtain⟨d,g,h⟩:=h; (with_reducible first|replace g:=wc g|replace g:=fP g|replace g:=j70 g|replace g:=l7 g|replace g:=j3a (x1:=x1) (x2:=x2) (x3:=x3) g|skip);try dsimp only[zm,jB,Gm,zw,jd,jb,qu,bj,zh,vev,bm,q9,yd,aE,aR,aU,aL,aP,aD]at g)|(replace h:=qd h;rcases h with⟨g,h⟩|⟨g,h⟩)
 all_goals (cases h<;>(simp only[go_sem,seval,tu,jh, *]<;>rfl))
def H6 (a1:GEv)(aV:Int)(aQ:Option (List ja))(aO:Option (List aX))(aA:Option (List aY)):Option (Int×(Option (List aX))):=
 qa (qq (a1.names.getD []) 0) fun v1=>
 qa (ov (⟨aV,aQ,aO,aA⟩) v1) fun v3=>
 qa (qq (aO.getD []) v3) fun v5=>
 qa (f48 (decide (((v5.dn.getD []).length:Int)=0)) 12) fun v7=>
 qa (f48 (decide (100≤((v5.aW.getD []).length:Int))) 5) fun v9=>
 qa (f46 (I [v7,v9])) fun v11=>
 cond (decide (v11=0))
  (qa (Mw aO v3) fun ef=>
  I (0,ef))
  (I (v11,aO))
theorem zb2 {a1 aV aQ aO aA x1 x2 x3 r}(h:H6 a1 aV aQ aO aA=I r):ql pr (X pr) 172 [.ptr 0 0,aE a1] [kR aV aQ aO aA,x1,x2,x3]=I (Iv r.1,En,[kR aV aQ r.2 aA,x1,x2,x3]):=by
 unfold H6 at h
 rw[qm (show pr.bM 172=I tv from rfl) (by simp)]
 repeat' first|(replace h:=qb h;obtain⟨d,g,h⟩:=h; (with_reducible first|replace g:=wc g|replace g:=fP g|replace g:=l7 g|replace g:=jkc g|skip);try dsimp only[zm,jB,Gm,zw,jd,jb,qu,bj,zh,vev,bm,q9,yd,aE,aR,aU,aL,aP,aD]at g)|(replace h:=qd h;rcases h with⟨g,h⟩|⟨g,h⟩)
 all_goals (cases h<;>(simp only[go_sem,seval,tv,jh, *]<;>rfl))
def H0 (a1:GEv)(aV:Int)(aQ:Option (List ja))(aO:Option (List aX))(aA:Option (List aY)):Option (Int×(Option (List aY))×Bool):=
 qa (qq (a1.names.getD []) 1) fun v1=>
 qa (ov (⟨aV,aQ,aO,aA⟩) v1) fun v3=>
 qa (qq (aO.getD []) v3) fun v5=>
 qa (Eg v5) fun v7=>
 qa (qq (a1.names.getD []) 0) fun v9=>
 qa (f76 (⟨aV,aQ,aO,aA⟩) v9) fun v11=>
 qa (f48 (decide (0≤v11)) 9) fun ey=>
 qa (f48 (decide (v7=0)) 32) fun fk=>
 qa (f48 (decide (256≤((aA.getD []).length:Int))) 5) fun ew=>
 qa (f46 (I [ey,fk,ew])) fun l4=>
 cond (decide (l4=0))
  (qa (f225 aA (⟨v9,v1,v7,Gh,Gh,[],En,0⟩)) fun v22=>
  I (0,v22,Gd))
  (I (l4,aA,En))
theorem zko {a1 aV aQ aO aA x1 x2 x3 r}(h:H0 a1 aV aQ aO aA=I r):ql pr (X pr) 173 [.ptr 0 0,aE a1] [kR aV aQ aO aA,x1,x2,x3]=I (Iv r.1,En,[kS aV aQ En aO En r.2.1 r.2.2,x1,x2,x3]):=by
 unfold H0 at h
 rw[qm (show pr.bM 173=I tw from rfl) (by simp)]
 repeat' first|(replace h:=qb h;obtain⟨d,g,h⟩:=h; (with_reducible first|replace g:=wc g|replace g:=jyc g|replace g:=tz g|replace g:=fP g|replace g:=l7 g|replace g:=zby g|skip);try dsimp only[zm,jB,Gm,zw,jd,jb,qu,bj,zh,vev,bm,q9,yd,aE,aR,aU,aL,aP,aD]at g)|(replace h:=qd h;rcases h with⟨g,h⟩|⟨g,h⟩)
 all_goals (cases h<;>(simp only[go_sem,seval,tw,jh, *]<;>rfl))
def Ic (a1:GEv)(aV:Int)(aQ:Option (List ja))(aO:Option (List aX))(aA:Option (List aY)):Option (Int×(Option (List aY))):=
 qa (qq (a1.names.getD []) 0) fun v1=>
 qa (f76 (⟨aV,aQ,aO,aA⟩) v1) fun v3=>
 qa (qq (aA.getD []) v3) fun v5=>
 qa (pQ (⟨aV,aQ,aO,aA⟩) v5) fun v7=>
 qa (HS v7.aH a1) fun v9=>
 qa (f48 v5.aj 21) fun v11=>
 qa (f48 (!v9) 7) fun ey=>
 qa (f48 (decide (64≤((v5.results.getD []).length:Int))) 5) fun fk=>
 qa (f46 (I [v11,ey,fk])) fun ew=>
 cond (decide (ew=0))
  (qa (TW aA v3 a1) fun v20=>
  I (0,v20))
  (I (ew,aA))
theorem zeu {a1 aV aQ aO aA x1 x2 x3 r}(h:Ic a1 aV aQ aO aA=I r):ql pr (X pr) 175 [.ptr 0 0,aE a1] [kR aV aQ aO aA,x1,x2,x3]=I (Iv r.1,En,[kR aV aQ aO r.2,x1,x2,x3]):=by
 unfold Ic at h
 rw[qm (show pr.bM 175=I tA from rfl) (by simp)]
 repeat' first|(replace h:=qb h;obtain⟨d,g,h⟩:=h; (with_reducible first|replace g:=tz g|replace g:=N6 g|replace g:=j5g g|replace g:=fP g|replace g:=l7 g|replace g:=jhi g|skip);try dsimp only[zm,jB,Gm,zw,jd,jb,qu,bj,zh,vev,bm,q9,yd,aE,aR,aU,aL,aP,aD]at g)|(replace h:=qd h;rcases h with⟨g,h⟩|⟨g,h⟩)
 all_goals (cases h<;>(simp only[go_sem,seval,tA,jh, *]<;>rfl))
def H9 (a1:GEv)(aV:Int)(aQ:Option (List ja))(aO:Option (List aX))(aA:Option (List aY)):Option (Int×(Option (List aY))):=
 qa (qq (a1.names.getD []) 0) fun v1=>
 qa (f76 (⟨aV,aQ,aO,aA⟩) v1) fun v3=>
 qa (qq (aA.getD []) v3) fun v5=>
 qa (Ee (⟨aV,aQ,aO,aA⟩) v5) fun v7=>
 qa (f48 v5.aj 21) fun v9=>
 qa (f48 (decide (v5.version=v7)) 32) fun v11=>
 qa (f46 (I [v9,v11])) fun ey=>
 cond (decide (ey=0))
  (qa (TT aA v3 v7) fun dD=>
  I (0,dD))
  (I (ey,aA))
theorem zbt {a1 aV aQ aO aA x1 x2 x3 r}(h:H9 a1 aV aQ aO aA=I r):ql pr (X pr) 176 [.ptr 0 0,aE a1] [kR aV aQ aO aA,x1,x2,x3]=I (Iv r.1,En,[kR aV aQ aO r.2,x1,x2,x3]):=by
 unfold H9 at h
 rw[qm (show pr.bM 176=I tB from rfl) (by simp)]
 repeat' first|(replace h:=qb h;obtain⟨d,g,h⟩:=h; (with_reducible first|replace g:=tz g|replace g:=jst g|replace g:=fP g|replace g:=l7 g|replace g:=jir g|skip);try dsimp only[zm,jB,Gm,zw,jd,jb,qu,bj,zh,vev,bm,q9,yd,aE,aR,aU,aL,aP,aD]at g)|(replace h:=qd h;rcases h with⟨g,h⟩|⟨g,h⟩)
 all_goals (cases h<;>(simp only[go_sem,seval,tB,jh, *]<;>rfl))
def Ii (a1:GEv)(aV:Int)(aQ:Option (List ja))(aO:Option (List aX))(aA:Option (List aY)):Option (Int×(Option (List aY))):=
 qa (qq (a1.names.getD []) 0) fun v1=>
 qa (f76 (⟨aV,aQ,aO,aA⟩) v1) fun v3=>
 qa (qq (a1.names.getD []) 1) fun v5=>
 qa (f76 (⟨aV,aQ,aO,aA⟩) v5) fun v7=>
 qa (qq (aA.getD []) v3) fun v9=>
 qa (qq (aA.getD []) v7) fun v11=>
 qa (f48 (decide (v3=v7)) 9) fun ey=>
 cond (decide (v9.product=v11.product))
  (qa (f48 (!decide (v9.version=v11.version)) 30) fun dD=>
  cond v9.aj
   (qa (f48 Gd 21) fun l4=>
   cond (decide (v9.partner=[]))
    (qa (f48 (!decide (v11.partner=[])) 35) fun v22=>
    qa (f46 (I [ey,dD,l4,v22])) fun v24=>
    cond (decide (v24=0))
     (qa (vM aA v3 v11) fun dW=>
     qa (vN dW v7 (⟨v9.name,v9.product,v9.version,v9.uses,v9.results,v9.partner,Gd,v9.ak⟩)) fun fb=>
     I (0,fb))
     (I (v24,aA)))
    (qa (f48 Gd 35) fun v31=>
    qa (f46 (I [ey,dD,l4,v31])) fun l6=>
    cond (decide (l6=0))
     (qa (vM aA v3 v11) fun zV=>
     qa (vN zV v7 (⟨v9.name,v9.product,v9.version,v9.uses,v9.results,v9.partner,Gd,v9.ak⟩)) fun Cf=>
     I (0,Cf))
     (I (l6,aA))))
   (qa (f48 v11.aj 21) fun v40=>
   cond (decide (v9.partner=[]))
    (qa (f48 (!decide (v11.partner=[])) 35) fun JA=>
    qa (f46 (I [ey,dD,v40,JA])) fun zU=>
    cond (decide (zU=0))
     (qa (vM aA v3 v11) fun Ya=>
     qa (vN Ya v7 (⟨v9.name,v9.product,v9.version,v9.uses,v9.results,v9.partner,En,v9.ak⟩)) fun v50=>
     I (0,v50))
     (I (zU,aA)))
    (qa (f48 Gd 35) fun v52=>
    qa (f46 (I [ey,dD,v40,v52])) fun N7=>
    cond (decide (N7=0))
     (qa (vM aA v3 v11) fun N8=>
     qa (vN N8 v7 (⟨v9.name,v9.product,v9.version,v9.uses,v9.results,v9.partner,En,v9.ak⟩)) fun v59=>
     I (0,v59))
     (I (N7,aA)))))
  (qa (f48 Gd 30) fun xl=>
  cond v9.aj
   (qa (f48 Gd 21) fun v64=>
   cond (decide (v9.partner=[]))
    (qa (f48 (!decide (v11.partner=[])) 35) fun v67=>
    qa (f46 (I [ey,xl,v64,v67])) fun v69=>
    cond (decide (v69=0))
     (qa (vM aA v3 v11) fun v72=>
     qa (vN v72 v7 (⟨v9.name,v9.product,v9.version,v9.uses,v9.results,v9.partner,Gd,v9.ak⟩)) fun XO=>
     I (0,XO))
     (I (v69,aA)))
    (qa (f48 Gd 35) fun v76=>
    qa (f46 (I [ey,xl,v64,v76])) fun v78=>
    cond (decide (v78=0))
     (qa (vM aA v3 v11) fun v81=>
     qa (vN v81 v7 (⟨v9.name,v9.product,v9.version,v9.uses,v9.results,v9.partner,Gd,v9.ak⟩)) fun Yd=>
     I (0,Yd))
     (I (v78,aA))))
   (qa (f48 v11.aj 21) fun v85=>
   cond (decide (v9.partner=[]))
    (qa (f48 (!decide (v11.partner=[])) 35) fun Ye=>
    qa (f46 (I [ey,xl,v85,Ye])) fun N9=>
    cond (decide (N9=0))
     (qa (vM aA v3 v11) fun v93=>
     qa (vN v93 v7 (⟨v9.name,v9.product,v9.version,v9.uses,v9.results,v9.partner,En,v9.ak⟩)) fun Yf=>
     I (0,Yf))
     (I (N9,aA)))
    (qa (f48 Gd 35) fun Yg=>
    qa (f46 (I [ey,xl,v85,Yg])) fun Oa=>
    cond (decide (Oa=0))
     (qa (vM aA v3 v11) fun Yh=>
     qa (vN Yh v7 (⟨v9.name,v9.product,v9.version,v9.uses,v9.results,v9.partner,En,v9.ak⟩)) fun Yi=>
     I (0,Yi))
     (I (Oa,aA)))))
theorem zdv {a1 aV aQ aO aA x1 x2 x3 r}(h:Ii a1 aV aQ aO aA=I r):ql pr (X pr) 177 [.ptr 0 0,aE a1] [kR aV aQ aO aA,x1,x2,x3]=I (Iv r.1,En,[kR aV aQ aO r.2,x1,x2,x3]):=by
 unfold Ii at h
 rw[qm (show pr.bM 177=I tC from rfl) (by simp)]
 repeat' first|(replace h:=qb h;obtain⟨d,g,h⟩:=h; (with_reducible first|replace g:=tz g|replace g:=fP g|replace g:=l7 g|replace g:=jja g|replace g:=jmi g|skip);try dsimp only[zm,jB,Gm,zw,jd,jb,qu,bj,zh,vev,bm,q9,yd,aE,aR,aU,aL,aP,aD]at g)|(replace h:=qd h;rcases h with⟨g,h⟩|⟨g,h⟩)
 all_goals (cases h<;>(simp only[go_sem,seval,tC,jh, *]<;>rfl))
def H7 (a1:GEv)(aV:Int)(aQ:Option (List ja))(aO:Option (List aX))(aA:Option (List aY)):Option (Int×(Option (List ja))):=
 qa (qq (a1.names.getD []) 0) fun v1=>
 qa (f64 (⟨aV,aQ,aO,aA⟩) v1) fun v3=>
 qa (qq (aQ.getD []) v3) fun v5=>
 cond v5.held
  (I (34,aQ))
  (qa (TQ aQ v3) fun v8=>
  I (0,v8))
theorem zhy {a1 aV aQ aO aA x1 x2 x3 r}(h:H7 a1 aV aQ aO aA=I r):ql pr (X pr) 178 [.ptr 0 0,aE a1] [kR aV aQ aO aA,x1,x2,x3]=I (Iv r.1,En,[kR aV r.2 aO aA,x1,x2,x3]):=by
 unfold H7 at h
 rw[qm (show pr.bM 178=I tD from rfl) (by simp)]
 repeat' first|(replace h:=qb h;obtain⟨d,g,h⟩:=h;with_reducible first|replace g:=Cj g|replace g:=ji6 g|skip)|(replace h:=qd h;rcases h with⟨g,h⟩|⟨g,h⟩)
 all_goals (cases h<;>(simp only[go_sem,seval,tD,jh, *]<;>rfl))
def H8 (a1:GEv)(aV:Int)(aQ:Option (List ja))(aO:Option (List aX))(aA:Option (List aY)):Option (Int×(Option (List ja))):=
 qa (qq (a1.names.getD []) 0) fun v1=>
 qa (f64 (⟨aV,aQ,aO,aA⟩) v1) fun v3=>
 qa (qq (aQ.getD []) v3) fun v5=>
 cond v5.held
  (qa (TR aQ v3) fun v8=>
  I (0,v8))
  (I (20,aQ))
theorem zgm {a1 aV aQ aO aA x1 x2 x3 r}(h:H8 a1 aV aQ aO aA=I r):ql pr (X pr) 179 [.ptr 0 0,aE a1] [kR aV aQ aO aA,x1,x2,x3]=I (Iv r.1,En,[kR aV r.2 aO aA,x1,x2,x3]):=by
 unfold H8 at h
 rw[qm (show pr.bM 179=I tE from rfl) (by simp)]
 repeat' first|(replace h:=qb h;obtain⟨d,g,h⟩:=h;with_reducible first|replace g:=Cj g|replace g:=jkx g|skip)|(replace h:=qd h;rcases h with⟨g,h⟩|⟨g,h⟩)
 all_goals (cases h<;>(simp only[go_sem,seval,tE,jh, *]<;>rfl))
def Ib (a1:GEv)(aV:Int)(aQ:Option (List ja))(aO:Option (List aX))(aA:Option (List aY)):Option (Int×(Option (List aY))):=
 qa (qq (a1.names.getD []) 0) fun v1=>
 qa (f76 (⟨aV,aQ,aO,aA⟩) v1) fun v3=>
 qa (qq (aA.getD []) v3) fun v5=>
 cond v5.aj
  (qa (TV aA v3) fun v8=>
  I (0,v8))
  (I (20,aA))
theorem zge {a1 aV aQ aO aA x1 x2 x3 r}(h:Ib a1 aV aQ aO aA=I r):ql pr (X pr) 181 [.ptr 0 0,aE a1] [kR aV aQ aO aA,x1,x2,x3]=I (Iv r.1,En,[kR aV aQ aO r.2,x1,x2,x3]):=by
 unfold Ib at h
 rw[qm (show pr.bM 181=I tF from rfl) (by simp)]
 repeat' first|(replace h:=qb h;obtain⟨d,g,h⟩:=h;with_reducible first|replace g:=tz g|replace g:=jhu g|skip)|(replace h:=qd h;rcases h with⟨g,h⟩|⟨g,h⟩)
 all_goals (cases h<;>(simp only[go_sem,seval,tF,jh, *]<;>rfl))
end Go.Z
namespace Go.Z
open Go Go.Abs Go.W
def Ig (a1:GEv)(aV:Int)(aQ:Option (List ja))(aO:Option (List aX))(aA:Option (List aY)):Option (Int×(Option (List ja))×(Option (List aY))):=
 qa (qq (a1.names.getD []) 0) fun v1=>
 qa (f76 (⟨aV,aQ,aO,aA⟩) v1) fun v3=>
 qa (qq (a1.names.getD []) 1) fun v5=>
 qa (f64 (⟨aV,aQ,aO,aA⟩) v5) fun v7=>
 qa (qq (a1.values.getD []) 1) fun v9=>
 qa (qq (aA.getD []) v3) fun v11=>
 qa (qq (aQ.getD []) v7) fun ey=>
 qa (pQ (⟨aV,aQ,aO,aA⟩) v11) fun fk=>
 qa (HP fk.aM ey) fun ew=>
 qa (f48 v11.aj 21) fun l4=>
 qa (f48 (decide (v9=0)) 3) fun v21=>
 qa (f48 ey.held 34) fun v23=>
 qa (f48 (!ew) 7) fun v25=>
 qa (f48 (decide (ey.left<v9)) 4) fun dW=>
 qa (f46 (I [l4,v21,v23,v25,dW])) fun fb=>
 cond (decide (fb=0))
  (qa (TX aQ v7 v9) fun lD=>
  qa (zA v11.uses ey) fun Ob=>
  cond (decide (0≤Ob))
   (qa (qq (v11.uses.getD []) Ob) fun v37=>
   qa (gj aA v3 (zC ⟨ey.name,qe .i64 (v9+v37.n)⟩ ey)) fun us=>I (fb,lD,us))
   (qa (gj aA v3 (zC ⟨ey.name,v9⟩ ey)) fun us=>I (fb,lD,us)))
  (I (fb,aQ,aA))
theorem zjd {a1 aV aQ aO aA x1 x2 x3 r}(h:Ig a1 aV aQ aO aA=I r):
  (r.1≠0∧r.2=(aQ,aA)∧ql pr (X pr) 174 [.ptr 0 0,aE a1] [kR aV aQ aO aA,x1,x2,x3]=I (Iv r.1,En,[kR aV aQ aO aA,x1,x2,x3])) ∨
  (r.1=0∧∃(n:Nat) (b:bg) (cs:List (AVal×Bool)),ql pr (X pr) 174 [.ptr 0 0,aE a1] [kR aV aQ aO aA,x1,x2,x3]=I (Iv 0,En,[.cells [(Iv aV,En),(sl 5 jb r.2.1,En),(sl 4 qu aO,En),(.ms 5 0 n,En)],x1,x2,x3,b,.cells cs])∧cs.map (·.1)=zb bj (r.2.2.getD [])∧n=(r.2.2.getD []).length∧0<n):=by
 unfold Ig at h
 obtain⟨v1,h2,h⟩:=qb h
 obtain⟨v3,h4,h⟩:=qb h
 have wh:qc pr (X pr) 76 [aG aV aQ aO aA,.str v1]=I (Iv v3,En):=tz h4
 obtain⟨v5,h6,h⟩:=qb h
 obtain⟨v7,h8,h⟩:=qb h
 have E3:qc pr (X pr) 64 [aG aV aQ aO aA,.str v5]=I (Iv v7,En):=Cj h8
 obtain⟨v9,lf,h⟩:=qb h
 obtain⟨v11,l3,h⟩:=qb h
 obtain⟨ey,pf,h⟩:=qb h
 obtain⟨fk,nL,h⟩:=qb h
 have Ck:qc pr (X pr) 126 [aG aV aQ aO aA,aU v11]=I (aD fk,En):=N6 nL
 obtain⟨ew,XJ,h⟩:=qb h
 have Cl:qc pr (X pr) 193 [sl 2 bm fk.aM,.fn (.func 226) [] [.ah (aL ey)]]=I (.bool ew,En):=j19 XJ
 obtain⟨l4,A2,h⟩:=qb h
 have Cm:qc pr (X pr) 48 [.bool v11.aj,Iv 21]=I (Iv l4,En):=fP A2
 obtain⟨v21,A3,h⟩:=qb h
 have Cn:qc pr (X pr) 48 [.bool (decide (v9=0)),Iv 3]=I (Iv v21,En):=fP A3
 obtain⟨v23,Gv,h⟩:=qb h
 have Co:qc pr (X pr) 48 [.bool ey.held,Iv 34]=I (Iv v23,En):=fP Gv
 obtain⟨v25,XK,h⟩:=qb h
 have Cp:qc pr (X pr) 48 [.bool (!ew),Iv 7]=I (Iv v25,En):=fP XK
 obtain⟨dW,B6,h⟩:=qb h
 have Cq:qc pr (X pr) 48 [.bool (decide (ey.left<v9)),Iv 4]=I (Iv dW,En):=fP B6
 obtain⟨fb,B7,h⟩:=qb h
 have Cr:qc pr (X pr) 46 [.list En 1 [Iv l4,Iv v21,Iv v23,Iv v25,Iv dW]]=I (Iv fb,En):=l7 B7
 rcases qd h with⟨xf,h⟩|⟨xf,h⟩
 ·obtain⟨lD,Yj,h⟩:=qb h
  have JB:qc pr (X pr) 227 [sl 5 jb aQ,Iv v7,.fn (.func 228) [] [.ah (Iv v9)]]=I (sl 5 jb lD,En):=ji1 Yj
  obtain⟨Ob,h35,h⟩:=qb h
  have JC:qc pr (X pr) 230 [sl 2 bm v11.uses,.fn (.func 229) [] [.ah (aL ey)]]=I (Iv Ob,En):=jup h35
  rcases qd h with⟨JD,h⟩|⟨JD,h⟩
  ·obtain⟨v37,JE,h⟩:=qb h
   obtain⟨us,hu,h⟩:=qb h
   cases h
   obtain⟨n,x,y,rfl,hl,hx,hy,rfl⟩:=zT hu
   obtain⟨cs,g1,g2⟩:=jyw (b0:=(kR aV lD aO aA)) (b1:=x1) (b2:=x2) (dQ:=x3) hx hy
   have w:=jns hl (Gc.1 hx).1 g1
   simp only[q0d]at w
   refine .inr ⟨of_decide_eq_true xf,(aA.getD []).length,.cells [(.str ey.name,En),(Iv (qe .i64 (v9+v37.n)),En)],cs,?_,g2,by simp,by have:=(Gc.1 hx).1;omega⟩
   rw[qm (show pr.bM 174=I ll from rfl) (by simp)]
   simp only[go_sem,seval,ll,z7 h2,wh,z7 h6,E3,z7 lf,z7 l3,z7 pf,Ck,Cl,Cm,Cn,Co,Cp,Cq,Cr,xf,JB,JC,JD,z7 JE,w,(show ∀n,below 5 (.ms 5 0 n)=En from fun _=>rfl),Ha,cond_false]
  ·obtain⟨us,hu,h⟩:=qb h
   cases h
   obtain⟨n,x,y,rfl,hl,hx,hy,rfl⟩:=zT hu
   obtain⟨cs,g1,g2⟩:=jyw (b0:=(kR aV lD aO aA)) (b1:=x1) (b2:=x2) (dQ:=x3) hx hy
   have w:=jns hl (Gc.1 hx).1 g1
   simp only[q0d]at w
   refine .inr ⟨of_decide_eq_true xf,(aA.getD []).length,.cells [(.str ey.name,En),(Iv v9,En)],cs,?_,g2,by simp,by have:=(Gc.1 hx).1;omega⟩
   rw[qm (show pr.bM 174=I ll from rfl) (by simp)]
   simp only[go_sem,seval,ll,z7 h2,wh,z7 h6,E3,z7 lf,z7 l3,z7 pf,Ck,Cl,Cm,Cn,Co,Cp,Cq,Cr,xf,JB,JC,JD,w,(show ∀n,below 5 (.ms 5 0 n)=En from fun _=>rfl),Ha,cond_false]
 ·cases h
  refine .inl ⟨of_decide_eq_false xf,rfl,?_⟩
  rw[qm (show pr.bM 174=I ll from rfl) (by simp)]
  simp only[go_sem,seval,ll,z7 h2,wh,z7 h6,E3,z7 lf,z7 l3,z7 pf,Ck,Cl,Cm,Cn,Co,Cp,Cq,Cr,xf]<;>rfl
end Go.Z
end
