/- Chapter 10. -/
import Derived.Test.YtimdocpnkimlfaaGreatDoorW1
set_option linter.unusedVariables false
set_option linter.unusedSimpArgs false
set_option maxRecDepth 100000
noncomputable section
open Option renaming some→I,none→Ge
open Bool renaming false→En,true→Ga,and_self→Gl,false_and→G4
open Nat renaming le_of_ble_eq_true→Es,ble_eq_true_of_le→Gi,beq_refl→Gm,beq→Gu,blt_eq→Gz
open List renaming getElem?_eq_some_iff→E9,replicate→Gd,length_set→Gf,map→Gj,length_map→Gn,drop_eq_nil_of_le→Gp,take_of_length_le→Gv,nil_append→Gx,all→Gy,append_nil→G2,take_zero→G3
namespace Go.Z
open Go Go.Abs Go.W
section
variable {p:jz}{xc:XC}{h0:Nat}{al:Option (List Nat)}{e:Env}{h:qh}{α:Type}
structure oY (f:α→AVal)(sz:Nat):Prop where
 len:∀x,(f x).flat.length=sz
 sc:∀x,(f x).flat.all ql=Ga
 ag:∀x,f x=.agg (f x).flat
 ref:∀x,(f x).flat.any Ki=Ga
 big:1<sz
variable {f:α→AVal}{sz:Nat}
theorem jg2 (E:oY f sz)(l:List α):(j8 f l).all ql=Ga:=by
 induction l with
 |nil=>rfl
 |cons x l ih=>rw[wx,List.all_append,E.sc,ih];rfl
theorem q7d (E:oY f sz):∀(l:List α),mG sz l.length (j8 f l)=l.map f
 | []=>rfl
 |x::l=>by
  have hb:Gu sz 1=En:=by
   have:=E.big
   cases h:Gu sz 1 with
   |false=>rfl
   |true=>have:=Nat.eq_of_beq_eq_true h;omega
  have hl:=E.len x
  show(bif Gu sz 1 then(j8 f (x::l)).headD .undef else .agg ((j8 f (x::l)).take sz))::mG sz l.length ((j8 f (x::l)).drop sz)=_
  rw[hb,cond_false,wx,List.take_append_of_le_length (by omega),List.drop_append_of_le_length (by omega),Gv (by omega),Gp (by omega),Gx,q7d E l,←E.ag]
  rfl
theorem vJ (E:oY f sz){l}(hl:0<l.length){cs}(hc:cs.map (·.1)=j8 f l):Mg (I cs) 0 l.length=I (.list En sz (l.map f)):=by
 have dS:cs.length=l.length*sz:=by rw[←Gn (f:=(·.1)),hc,G1 E.len]
 have hdiv:cs.length / l.length=sz:=by rw[dS];exact Nat.mul_div_cancel_left _ hl
 have XT:cs.any (fun c=>Ki c.1)=Ga:=by
  cases l with
  |nil=>cases hl
  |cons x l=>
   have:(cs.map (·.1)).any Ki=Ga:=by rw[hc,wx,List.any_append,E.ref];rfl
   rw[List.any_map]at this
   exact this
 have hr:Dg 0 l.length cs=Ga:=by
  have hb:Nat.blt 1 sz=Ga:=Gz.mpr E.big
  rw[Dg,hdiv,hb,XT,dS,Gm,Gm];rfl
 unfold Mg
 simp only[hr,cond_true,hdiv]
 rw[hc,q7d E]
theorem B5 {r n XU zero}(hz:zero.length=sz)(hs:zero.all ql=Ga)(h1:0<sz)(hn:n≤1073741824)(hb:XU≤4096){h'}(hh:aS h0 h r (.cells (cellsOf (Gd n zero).flatten))=I h'):
  vE h0 r sz XU zero h (I (Iv (n:Int))) (I (Iv (n:Int)))=I ⟨.ms (h0+r) 0 n,En,Ge,h'⟩:=by
 show(bif Gu n n&&Nat.ble n 1073741824&&Nat.ble XU 4096&&Gu zero.length sz&&Nat.blt 0 sz&&zero.all ql then _ else _)=_
 rw[Gm,Gi hn,Gi hb,hz,Gm,Gz.mpr h1,hs]
 simp only[Gl,cond_true,hh]
 rfl
theorem B6 (E:oY f sz){b l cs}(hb:h[b]?=I (.cells cs))(hc:cs.length=(l.getD []).length*sz)(dJ:j9 h0 al b=Ga):
  wO h0 al sz h (I (.ms b 0 (l.getD []).length)) (I (sl sz f l))=I ⟨Lv l,En,Ge,h.set b (.cells (bO f (l.getD [])))⟩:=by
 have lx:jt h b=I cs:=by rw[q52,hb];rfl
 have bz:=(E9.1 hb).1
 have cW:zZ sz (l.getD []).length (sl sz f l)=I ((l.getD []).length,j8 f (l.getD [])):=by
  cases l with
  |none=>simp[sl,zZ,j8]
  |some l=>
   show(bif Gu sz sz||(l.map f).isEmpty then I (min (l.map f).length l.length,((l.map f).take l.length).flatMap AVal.flat)else Ge)=_
   rw[Gm,Gn,Nat.min_self,Gv (by rw[Gn];exact Nat.le_refl _)]
   rfl
 have KG:(j8 f (l.getD [])).length=(l.getD []).length*sz:=G1 E.len _
 have cr:jo cs 0 (j8 f (l.getD []))=I (bO f (l.getD [])):=by
  unfold jo
  rw[jg2 E,KG,hc,Gi (by omega)]
  simp only[Gl,cond_true,G3,Gx]
  rw[Gp (by rw[hc];omega),G2]
  rfl
 have bJ:jr h b (.cells (bO f (l.getD [])))=I (h.set b (.cells (bO f (l.getD [])))):=by
  simp only[jr,Gz.mpr bz,cond_true]
 show(bif j9 h0 al b then(match jt h b with
   |some cs=>(match zZ sz (l.getD []).length (sl sz f l)with
    |some (n,vs)=>(match jo cs 0 vs with
     |some eE=>bif Gu vs.length (n*sz)then(match jr h b (.cells eE)with
      |some h'=>val h' (Iv n)
      |none=>Ge)else Ge
     |none=>Ge)
    |none=>Ge)
   |none=>Ge)else Ge)=_
 rw[dJ,lx,cW]
 simp only[cond_true,cr,KG,Gm,bJ]
 rfl
theorem vK {b n i k}(hi:i<n):hH sz h (I (.ms b 0 n)) (I (.int k (i:Int)))=I ⟨.ptr b (i*sz),En,Ge,h⟩:=by
 have:idx n (.int k (i:Int))=I i:=by rw[yE];exact Sm hi
 simp only[hH,this,Nat.zero_add]
 rfl
end
end Go.Z
set_option maxHeartbeats 4000000
namespace Go.Z
open Go Go.Abs Go.W
theorem gk:oY jd 5:=⟨fun _=>rfl,fun _=>rfl,fun _=>rfl,fun _=>rfl,by omega⟩
theorem oZ:oY bp 2:=⟨fun _=>rfl,fun _=>rfl,fun _=>rfl,fun _=>rfl,by omega⟩
theorem rV:oY q9 3:=⟨fun _=>rfl,fun _=>rfl,fun _=>rfl,fun _=>rfl,by omega⟩
theorem cK:oY qu 4:=⟨fun _=>rfl,fun _=>by simp only[go_sem,seval,jaf]<;>simp only[Gy,go_sem],fun _=>rfl,fun _=>rfl,by omega⟩
theorem en:oY bI 8:=⟨fun _=>rfl,fun _=>by simp only[go_sem,seval,ji0]<;>simp only[Gy,go_sem],fun _=>rfl,fun _=>rfl,by omega⟩
theorem zd4 {j caps l i cs}(hlen:(l.getD []).length≤1073741824)(hi:i<(l.getD []).length)(dS:qm pr (X pr) j (.ptr 0 (i*4)::caps) [.cells (bO qu (l.getD []))]=I (.aI [],En,[.cells cs])):qm pr (X pr) 221 [sl 4 qu l,Iv (i:Int),.fn (.func j) [] caps] []=I (.ms 0 0 ((l.getD []).length),En,[.cells cs]):=by
 rw[qj (show pr.bG 221=I rW from rfl) (by simp)]
 have pe:vE 0 0 4 88 [(.str []),(Nl),(Nl),(Nl)] [.hole] (I (Lv l)) (I (Lv l))=I ⟨.ms 0 0 (l.getD []).length,En,Ge,[.cells (cellsOf (Gd (l.getD []).length [(.str []),(Nl),(Nl),(Nl)]).flatten)]⟩:=by apply B5<;>first|exact hlen|rfl|decide
 have pf:wO 1 Ge 4 [.cells (cellsOf (Gd (l.getD []).length [(.str []),(Nl),(Nl),(Nl)]).flatten)] (I (.ms 0 0 (l.getD []).length)) (I (sl 4 qu l))=I ⟨Lv l,En,Ge,[.cells (bO qu (l.getD []))]⟩:=B6 cK rfl (by simp[cellsOf]) rfl
 simp only[go_sem,seval,rW,pe,pf,vK hi,dS]<;>rfl
theorem j2v{y:aC} {j:Nat} {caps:List AVal} {l:Option (List aC)} {i:Nat} {cs:List (AVal×Bool)} (hlen:(l.getD []).length≤1073741824) (hi:i<(l.getD []).length) (dS:qm pr (X pr) j (.ptr 0 (i*4)::caps) [.cells (bO qu (l.getD []))]=I (.aI [],En,[.cells cs])) (hcs:cs.map (·.1)=j8 qu ((l.getD []).set i y)):qc pr (X pr) 221 [sl 4 qu l,Iv (i:Int),.fn (.func j) [] caps]=I (sl 4 qu (I ((l.getD []).set i y)),En):=by
 have hl:((l.getD []).set i y).length=(l.getD []).length:=Gf
 have hz:aJ [.cells cs] (.ms 0 0 ((l.getD []).length))=I (sl 4 qu (I ((l.getD []).set i y))):=by
  rw[Eu,←hl]
  exact vJ cK (by rw[hl];omega) hcs
 exact zx rfl (zd4 hlen hi dS) hz (by first|rfl|simp only[go_sem,seval])
theorem zcj {j caps l i cs}(hlen:(l.getD []).length≤1073741824)(hi:i<(l.getD []).length)(dS:qm pr (X pr) j (.ptr 0 (i*5)::caps) [.cells (bO jd (l.getD []))]=I (.aI [],En,[.cells cs])):qm pr (X pr) 227 [sl 5 jd l,Iv (i:Int),.fn (.func j) [] caps] []=I (.ms 0 0 ((l.getD []).length),En,[.cells cs]):=by
 rw[qj (show pr.bG 227=I rX from rfl) (by simp)]
 have pe:vE 0 0 5 56 [(.str []),(.str []),(Iv 0),(Iv 0),(.bool En)] [.hole] (I (Lv l)) (I (Lv l))=I ⟨.ms 0 0 (l.getD []).length,En,Ge,[.cells (cellsOf (Gd (l.getD []).length [(.str []),(.str []),(Iv 0),(Iv 0),(.bool En)]).flatten)]⟩:=by apply B5<;>first|exact hlen|rfl|decide
 have pf:wO 1 Ge 5 [.cells (cellsOf (Gd (l.getD []).length [(.str []),(.str []),(Iv 0),(Iv 0),(.bool En)]).flatten)] (I (.ms 0 0 (l.getD []).length)) (I (sl 5 jd l))=I ⟨Lv l,En,Ge,[.cells (bO jd (l.getD []))]⟩:=B6 gk rfl (by simp[cellsOf]) rfl
 simp only[go_sem,seval,rX,pe,pf,vK hi,dS]<;>rfl
theorem j6q{y:jc} {j:Nat} {caps:List AVal} {l:Option (List jc)} {i:Nat} {cs:List (AVal×Bool)} (hlen:(l.getD []).length≤1073741824) (hi:i<(l.getD []).length) (dS:qm pr (X pr) j (.ptr 0 (i*5)::caps) [.cells (bO jd (l.getD []))]=I (.aI [],En,[.cells cs])) (hcs:cs.map (·.1)=j8 jd ((l.getD []).set i y)):qc pr (X pr) 227 [sl 5 jd l,Iv (i:Int),.fn (.func j) [] caps]=I (sl 5 jd (I ((l.getD []).set i y)),En):=by
 have hl:((l.getD []).set i y).length=(l.getD []).length:=Gf
 have hz:aJ [.cells cs] (.ms 0 0 ((l.getD []).length))=I (sl 5 jd (I ((l.getD []).set i y))):=by
  rw[Eu,←hl]
  exact vJ gk (by rw[hl];omega) hcs
 exact zx rfl (zcj hlen hi dS) hz (by first|rfl|simp only[go_sem,seval])
theorem zi3 {j caps l i cs}(hlen:(l.getD []).length≤1073741824)(hi:i<(l.getD []).length)(dS:qm pr (X pr) j (.ptr 0 (i*8)::caps) [.cells (bO bI (l.getD []))]=I (.aI [],En,[.cells cs])):qm pr (X pr) 231 [sl 8 bI l,Iv (i:Int),.fn (.func j) [] caps] []=I (.ms 0 0 ((l.getD []).length),En,[.cells cs]):=by
 rw[qj (show pr.bG 231=I nH from rfl) (by simp)]
 have pe:vE 0 0 8 120 [(.str []),(.str []),(Iv 0),(Nl),(Nl),(.str []),(.bool En),(Iv 0)] [.hole] (I (Lv l)) (I (Lv l))=I ⟨.ms 0 0 (l.getD []).length,En,Ge,[.cells (cellsOf (Gd (l.getD []).length [(.str []),(.str []),(Iv 0),(Nl),(Nl),(.str []),(.bool En),(Iv 0)]).flatten)]⟩:=by apply B5<;>first|exact hlen|rfl|decide
 have pf:wO 1 Ge 8 [.cells (cellsOf (Gd (l.getD []).length [(.str []),(.str []),(Iv 0),(Nl),(Nl),(.str []),(.bool En),(Iv 0)]).flatten)] (I (.ms 0 0 (l.getD []).length)) (I (sl 8 bI l))=I ⟨Lv l,En,Ge,[.cells (bO bI (l.getD []))]⟩:=B6 en rfl (by simp[cellsOf]) rfl
 simp only[go_sem,seval,nH,pe,pf,vK hi,dS]<;>rfl
theorem j71{y:bh} {j:Nat} {caps:List AVal} {l:Option (List bh)} {i:Nat} {cs:List (AVal×Bool)} (hlen:(l.getD []).length≤1073741824) (hi:i<(l.getD []).length) (dS:qm pr (X pr) j (.ptr 0 (i*8)::caps) [.cells (bO bI (l.getD []))]=I (.aI [],En,[.cells cs])) (hcs:cs.map (·.1)=j8 bI ((l.getD []).set i y)):qc pr (X pr) 231 [sl 8 bI l,Iv (i:Int),.fn (.func j) [] caps]=I (sl 8 bI (I ((l.getD []).set i y)),En):=by
 have hl:((l.getD []).set i y).length=(l.getD []).length:=Gf
 have hz:aJ [.cells cs] (.ms 0 0 ((l.getD []).length))=I (sl 8 bI (I ((l.getD []).set i y))):=by
  rw[Eu,←hl]
  exact vJ en (by rw[hl];omega) hcs
 exact zx rfl (zi3 hlen hi dS) hz (by first|rfl|simp only[go_sem,seval])
theorem jlu {b0 b1 b2 de dQ j caps l i cs}(hlen:(l.getD []).length≤1073741824)(hi:i<(l.getD []).length)(dS:qm pr (X pr) j (.ptr 5 (i*8)::caps) [b0,b1,b2,de,dQ,.cells (bO bI (l.getD []))]=I (.aI [],En,[b0,b1,b2,de,dQ,.cells cs])):qm pr (X pr) 231 [sl 8 bI l,Iv (i:Int),.fn (.func j) [] caps] [b0,b1,b2,de,dQ]=I (.ms 5 0 ((l.getD []).length),En,[b0,b1,b2,de,dQ,.cells cs]):=by
 rw[qj (show pr.bG 231=I nH from rfl) (by simp)]
 have pe:vE 5 0 8 120 [(.str []),(.str []),(Iv 0),(Nl),(Nl),(.str []),(.bool En),(Iv 0)] [b0,b1,b2,de,dQ,.hole] (I (Lv l)) (I (Lv l))=I ⟨.ms 5 0 (l.getD []).length,En,Ge,[b0,b1,b2,de,dQ,.cells (cellsOf (Gd (l.getD []).length [(.str []),(.str []),(Iv 0),(Nl),(Nl),(.str []),(.bool En),(Iv 0)]).flatten)]⟩:=by apply B5<;>first|exact hlen|rfl|decide
 have pf:wO 6 Ge 8 [b0,b1,b2,de,dQ,.cells (cellsOf (Gd (l.getD []).length [(.str []),(.str []),(Iv 0),(Nl),(Nl),(.str []),(.bool En),(Iv 0)]).flatten)] (I (.ms 5 0 (l.getD []).length)) (I (sl 8 bI l))=I ⟨Lv l,En,Ge,[b0,b1,b2,de,dQ,.cells (bO bI (l.getD []))]⟩:=B6 en rfl (by simp[cellsOf]) rfl
 simp only[go_sem,seval,nH,pe,pf,vK hi,dS]<;>rfl
theorem ze0 {j caps l i cs}(hlen:(l.getD []).length≤1073741824)(hi:i<(l.getD []).length)(dS:qm pr (X pr) j (.ptr 0 (i*2)::caps) [.cells (bO bp (l.getD []))]=I (.aI [],En,[.cells cs])):qm pr (X pr) 271 [sl 2 bp l,Iv (i:Int),.fn (.func j) [] caps] []=I (.ms 0 0 ((l.getD []).length),En,[.cells cs]):=by
 rw[qj (show pr.bG 271=I rZ from rfl) (by simp)]
 have pe:vE 0 0 2 24 [(.str []),(Iv 0)] [.hole] (I (Lv l)) (I (Lv l))=I ⟨.ms 0 0 (l.getD []).length,En,Ge,[.cells (cellsOf (Gd (l.getD []).length [(.str []),(Iv 0)]).flatten)]⟩:=by apply B5<;>first|exact hlen|rfl|decide
 have pf:wO 1 Ge 2 [.cells (cellsOf (Gd (l.getD []).length [(.str []),(Iv 0)]).flatten)] (I (.ms 0 0 (l.getD []).length)) (I (sl 2 bp l))=I ⟨Lv l,En,Ge,[.cells (bO bp (l.getD []))]⟩:=B6 oZ rfl (by simp[cellsOf]) rfl
 simp only[go_sem,seval,rZ,pe,pf,vK hi,dS]<;>rfl
theorem j1g{y:bn} {j:Nat} {caps:List AVal} {l:Option (List bn)} {i:Nat} {cs:List (AVal×Bool)} (hlen:(l.getD []).length≤1073741824) (hi:i<(l.getD []).length) (dS:qm pr (X pr) j (.ptr 0 (i*2)::caps) [.cells (bO bp (l.getD []))]=I (.aI [],En,[.cells cs])) (hcs:cs.map (·.1)=j8 bp ((l.getD []).set i y)):qc pr (X pr) 271 [sl 2 bp l,Iv (i:Int),.fn (.func j) [] caps]=I (sl 2 bp (I ((l.getD []).set i y)),En):=by
 have hl:((l.getD []).set i y).length=(l.getD []).length:=Gf
 have hz:aJ [.cells cs] (.ms 0 0 ((l.getD []).length))=I (sl 2 bp (I ((l.getD []).set i y))):=by
  rw[Eu,←hl]
  exact vJ oZ (by rw[hl];omega) hcs
 exact zx rfl (ze0 hlen hi dS) hz (by first|rfl|simp only[go_sem,seval])
theorem ze4 {j caps l i cs}(hlen:(l.getD []).length≤1073741824)(hi:i<(l.getD []).length)(dS:qm pr (X pr) j (.ptr 0 (i*3)::caps) [.cells (bO q9 (l.getD []))]=I (.aI [],En,[.cells cs])):qm pr (X pr) 275 [sl 3 q9 l,Iv (i:Int),.fn (.func j) [] caps] []=I (.ms 0 0 ((l.getD []).length),En,[.cells cs]):=by
 rw[qj (show pr.bG 275=I sd from rfl) (by simp)]
 have pe:vE 0 0 3 32 [(.str []),(Iv 0),(Iv 0)] [.hole] (I (Lv l)) (I (Lv l))=I ⟨.ms 0 0 (l.getD []).length,En,Ge,[.cells (cellsOf (Gd (l.getD []).length [(.str []),(Iv 0),(Iv 0)]).flatten)]⟩:=by apply B5<;>first|exact hlen|rfl|decide
 have pf:wO 1 Ge 3 [.cells (cellsOf (Gd (l.getD []).length [(.str []),(Iv 0),(Iv 0)]).flatten)] (I (.ms 0 0 (l.getD []).length)) (I (sl 3 q9 l))=I ⟨Lv l,En,Ge,[.cells (bO q9 (l.getD []))]⟩:=B6 rV rfl (by simp[cellsOf]) rfl
 simp only[go_sem,seval,sd,pe,pf,vK hi,dS]<;>rfl
theorem j3n{y:jb} {j:Nat} {caps:List AVal} {l:Option (List jb)} {i:Nat} {cs:List (AVal×Bool)} (hlen:(l.getD []).length≤1073741824) (hi:i<(l.getD []).length) (dS:qm pr (X pr) j (.ptr 0 (i*3)::caps) [.cells (bO q9 (l.getD []))]=I (.aI [],En,[.cells cs])) (hcs:cs.map (·.1)=j8 q9 ((l.getD []).set i y)):qc pr (X pr) 275 [sl 3 q9 l,Iv (i:Int),.fn (.func j) [] caps]=I (sl 3 q9 (I ((l.getD []).set i y)),En):=by
 have hl:((l.getD []).set i y).length=(l.getD []).length:=Gf
 have hz:aJ [.cells cs] (.ms 0 0 ((l.getD []).length))=I (sl 3 q9 (I ((l.getD []).set i y))):=by
  rw[Eu,←hl]
  exact vJ rV (by rw[hl];omega) hcs
 exact zx rfl (ze4 hlen hi dS) hz (by first|rfl|simp only[go_sem,seval])
theorem zci {j caps l i cs}(hlen:(l.getD []).length≤1073741824)(hi:i<(l.getD []).length)(dS:qm pr (X pr) j (.ptr 0 (i*2)::caps) [.cells (bO bp (l.getD []))]=I (.aI [],En,[.cells cs])):qm pr (X pr) 282 [sl 2 bp l,Iv (i:Int),.fn (.func j) [] caps] []=I (.ms 0 0 ((l.getD []).length),En,[.cells cs]):=by
 rw[qj (show pr.bG 282=I sg from rfl) (by simp)]
 have pe:vE 0 0 2 24 [(.str []),(Iv 0)] [.hole] (I (Lv l)) (I (Lv l))=I ⟨.ms 0 0 (l.getD []).length,En,Ge,[.cells (cellsOf (Gd (l.getD []).length [(.str []),(Iv 0)]).flatten)]⟩:=by apply B5<;>first|exact hlen|rfl|decide
 have pf:wO 1 Ge 2 [.cells (cellsOf (Gd (l.getD []).length [(.str []),(Iv 0)]).flatten)] (I (.ms 0 0 (l.getD []).length)) (I (sl 2 bp l))=I ⟨Lv l,En,Ge,[.cells (bO bp (l.getD []))]⟩:=B6 oZ rfl (by simp[cellsOf]) rfl
 simp only[go_sem,seval,sg,pe,pf,vK hi,dS]<;>rfl
theorem j4w{y:bn} {j:Nat} {caps:List AVal} {l:Option (List bn)} {i:Nat} {cs:List (AVal×Bool)} (hlen:(l.getD []).length≤1073741824) (hi:i<(l.getD []).length) (dS:qm pr (X pr) j (.ptr 0 (i*2)::caps) [.cells (bO bp (l.getD []))]=I (.aI [],En,[.cells cs])) (hcs:cs.map (·.1)=j8 bp ((l.getD []).set i y)):qc pr (X pr) 282 [sl 2 bp l,Iv (i:Int),.fn (.func j) [] caps]=I (sl 2 bp (I ((l.getD []).set i y)),En):=by
 have hl:((l.getD []).set i y).length=(l.getD []).length:=Gf
 have hz:aJ [.cells cs] (.ms 0 0 ((l.getD []).length))=I (sl 2 bp (I ((l.getD []).set i y))):=by
  rw[Eu,←hl]
  exact vJ oZ (by rw[hl];omega) hcs
 exact zx rfl (zci hlen hi dS) hz (by first|rfl|simp only[go_sem,seval])
end Go.Z
namespace Go.Z
open Go Go.Abs Go.W
def gj {α:Type}(l:Option (List α))(i:Int)(g:α→Option α):Option (Option (List α)):=
 if(l.getD []).length≤1073741824∧0≤i then(match(l.getD [])[i.toNat]? with
  |some x=>(match g x with
   |some y=>I (I ((l.getD []).set i.toNat y))
   |none=>Ge)
  |none=>Ge)else Ge
theorem zO {α:Type}{l i g r}(h:gj l i g=I r):∃(n:Nat) (x y:α),i=(n:Int)∧(l.getD []).length≤1073741824∧(l.getD [])[n]?=I x∧g x=I y∧r=I ((l.getD []).set n y):=by
 unfold gj at h
 split at h
 ·rename_i hc
  split at h
  ·rename_i x hx
   split at h
   ·rename_i y hy
    cases h
    exact⟨i.toNat,x,y,(Int.toNat_of_nonneg hc.2).symm,hc.1,hx,hy,rfl⟩
   ·cases h
  ·cases h
 ·cases h
theorem XV {l r i g j caps}(dS:∀(n:Nat) (x y:aC),(l.getD [])[n]?=I x→g x=I y→∃cs,qm pr (X pr) j (.ptr 0 (n*4)::caps) [.cells (bO qu (l.getD []))]=I (.aI [],En,[.cells cs])∧cs.map (·.1)=j8 qu ((l.getD []).set n y))(h:gj l i g=I r):qc pr (X pr) 221 [sl 4 qu l,Iv i,.fn (.func j) [] caps]=I (sl 4 qu r,En):=by
 obtain⟨n,x,y,rfl,hl,hx,hy,rfl⟩:=zO h
 obtain⟨cs,h1,h2⟩:=dS n x y hx hy
 exact j2v hl (E9.1 hx).1 h1 h2
theorem XW {l r i g j caps}(dS:∀(n:Nat) (x y:jc),(l.getD [])[n]?=I x→g x=I y→∃cs,qm pr (X pr) j (.ptr 0 (n*5)::caps) [.cells (bO jd (l.getD []))]=I (.aI [],En,[.cells cs])∧cs.map (·.1)=j8 jd ((l.getD []).set n y))(h:gj l i g=I r):qc pr (X pr) 227 [sl 5 jd l,Iv i,.fn (.func j) [] caps]=I (sl 5 jd r,En):=by
 obtain⟨n,x,y,rfl,hl,hx,hy,rfl⟩:=zO h
 obtain⟨cs,h1,h2⟩:=dS n x y hx hy
 exact j6q hl (E9.1 hx).1 h1 h2
theorem EW {l r i g j caps}(dS:∀(n:Nat) (x y:bh),(l.getD [])[n]?=I x→g x=I y→∃cs,qm pr (X pr) j (.ptr 0 (n*8)::caps) [.cells (bO bI (l.getD []))]=I (.aI [],En,[.cells cs])∧cs.map (·.1)=j8 bI ((l.getD []).set n y))(h:gj l i g=I r):qc pr (X pr) 231 [sl 8 bI l,Iv i,.fn (.func j) [] caps]=I (sl 8 bI r,En):=by
 obtain⟨n,x,y,rfl,hl,hx,hy,rfl⟩:=zO h
 obtain⟨cs,h1,h2⟩:=dS n x y hx hy
 exact j71 hl (E9.1 hx).1 h1 h2
theorem j3b {l r i g j caps}(dS:∀(n:Nat) (x y:bn),(l.getD [])[n]?=I x→g x=I y→∃cs,qm pr (X pr) j (.ptr 0 (n*2)::caps) [.cells (bO bp (l.getD []))]=I (.aI [],En,[.cells cs])∧cs.map (·.1)=j8 bp ((l.getD []).set n y))(h:gj l i g=I r):qc pr (X pr) 271 [sl 2 bp l,Iv i,.fn (.func j) [] caps]=I (sl 2 bp r,En):=by
 obtain⟨n,x,y,rfl,hl,hx,hy,rfl⟩:=zO h
 obtain⟨cs,h1,h2⟩:=dS n x y hx hy
 exact j1g hl (E9.1 hx).1 h1 h2
theorem jyr {l r i g j caps}(dS:∀(n:Nat) (x y:jb),(l.getD [])[n]?=I x→g x=I y→∃cs,qm pr (X pr) j (.ptr 0 (n*3)::caps) [.cells (bO q9 (l.getD []))]=I (.aI [],En,[.cells cs])∧cs.map (·.1)=j8 q9 ((l.getD []).set n y))(h:gj l i g=I r):qc pr (X pr) 275 [sl 3 q9 l,Iv i,.fn (.func j) [] caps]=I (sl 3 q9 r,En):=by
 obtain⟨n,x,y,rfl,hl,hx,hy,rfl⟩:=zO h
 obtain⟨cs,h1,h2⟩:=dS n x y hx hy
 exact j3n hl (E9.1 hx).1 h1 h2
theorem j48 {l r i g j caps}(dS:∀(n:Nat) (x y:bn),(l.getD [])[n]?=I x→g x=I y→∃cs,qm pr (X pr) j (.ptr 0 (n*2)::caps) [.cells (bO bp (l.getD []))]=I (.aI [],En,[.cells cs])∧cs.map (·.1)=j8 bp ((l.getD []).set n y))(h:gj l i g=I r):qc pr (X pr) 282 [sl 2 bp l,Iv i,.fn (.func j) [] caps]=I (sl 2 bp r,En):=by
 obtain⟨n,x,y,rfl,hl,hx,hy,rfl⟩:=zO h
 obtain⟨cs,h1,h2⟩:=dS n x y hx hy
 exact j4w hl (E9.1 hx).1 h1 h2
theorem zfw {l i x}(hx:l[i]?=I x):qm pr (X pr) 240 [.ptr 0 (i*5)] [.cells (bO jd l)]=I (.aI [],En,[.cells (bO jd (l.set i { x with held:=Ga }))]):=by
 rw[qj (show pr.bG 240=I si from rfl) (by simp)]
 have st:jo (bO jd l) (i*5+4) [.bool Ga]=I (bO jd (l.set i { x with held:=Ga })):=mL (o:=4) gk.len hx (Es rfl) rfl rfl
 simp only[go_sem,seval,si,st]<;>rfl
def TA (l:Option (List jc))(i:Int):Option (Option (List jc)):=gj l i fun x=>I { x with held:=Ga }
theorem jfu {l i r}(h:TA l i=I r):qc pr (X pr) 227 [sl 5 jd l,Iv i,.fn (.func 240) [] []]=I (sl 5 jd r,En):=
 XW (fun n x y hx hy=>by cases hy;exact⟨_,zfw hx,zz⟩) h
theorem zdz {l i x}(hx:l[i]?=I x):qm pr (X pr) 241 [.ptr 0 (i*5)] [.cells (bO jd l)]=I (.aI [],En,[.cells (bO jd (l.set i { x with held:=En }))]):=by
 rw[qj (show pr.bG 241=I sj from rfl) (by simp)]
 have st:jo (bO jd l) (i*5+4) [.bool En]=I (bO jd (l.set i { x with held:=En })):=mL (o:=4) gk.len hx (Es rfl) rfl rfl
 simp only[go_sem,seval,sj,st]<;>rfl
def TB (l:Option (List jc))(i:Int):Option (Option (List jc)):=gj l i fun x=>I { x with held:=En }
theorem jj1 {l i r}(h:TB l i=I r):qc pr (X pr) 227 [sl 5 jd l,Iv i,.fn (.func 241) [] []]=I (sl 5 jd r,En):=
 XW (fun n x y hx hy=>by cases hy;exact⟨_,zdz hx,zz⟩) h
theorem zd2 {l i x}(hx:l[i]?=I x):qm pr (X pr) 242 [.ptr 0 (i*8)] [.cells (bO bI l)]=I (.aI [],En,[.cells (bO bI (l.set i { x with aq:=Ga }))]):=by
 rw[qj (show pr.bG 242=I sk from rfl) (by simp)]
 have st:jo (bO bI l) (i*8+6) [.bool Ga]=I (bO bI (l.set i { x with aq:=Ga })):=mL (o:=6) en.len hx (Es rfl) rfl rfl
 simp only[go_sem,seval,sk,st]<;>rfl
def TE (l:Option (List bh))(i:Int):Option (Option (List bh)):=gj l i fun x=>I { x with aq:=Ga }
theorem ji6 {l i r}(h:TE l i=I r):qc pr (X pr) 231 [sl 8 bI l,Iv i,.fn (.func 242) [] []]=I (sl 8 bI r,En):=
 EW (fun n x y hx hy=>by cases hy;exact⟨_,zd2 hx,zz⟩) h
theorem zb9 {l i x}(hx:l[i]?=I x):qm pr (X pr) 243 [.ptr 0 (i*8)] [.cells (bO bI l)]=I (.aI [],En,[.cells (bO bI (l.set i { x with ah:=qe .i64 (x.ah+1) }))]):=by
 rw[qj (show pr.bG 243=I sn from rfl) (by simp)]
 have st:jo (bO bI l) (i*8+7) [Iv (qe .i64 (x.ah+1))]=I (bO bI (l.set i { x with ah:=qe .i64 (x.ah+1) })):=mL (o:=7) en.len hx (Es rfl) rfl rfl
 have XX:zf (bO bI l) (i*8+7) 1=I [Iv x.ah]:=vn (o:=7) en.len hx (by decide)
 simp only[go_sem,seval,sn,st,XX]<;>rfl
def TF (l:Option (List bh))(i:Int):Option (Option (List bh)):=gj l i fun x=>I { x with ah:=qe .i64 (x.ah+1) }
theorem jkn {l i r}(h:TF l i=I r):qc pr (X pr) 231 [sl 8 bI l,Iv i,.fn (.func 243) [] []]=I (sl 8 bI r,En):=
 EW (fun n x y hx hy=>by cases hy;exact⟨_,zb9 hx,zz⟩) h
theorem zcd {l i x v}(hx:l[i]?=I x):qm pr (X pr) 237 [.ptr 0 (i*8),.ai (Iv v)] [.cells (bO bI l)]=I (.aI [],En,[.cells (bO bI (l.set i { x with version:=v }))]):=by
 rw[qj (show pr.bG 237=I su from rfl) (by simp)]
 have st:jo (bO bI l) (i*8+2) [Iv v]=I (bO bI (l.set i { x with version:=v })):=mL (o:=2) en.len hx (Es rfl) rfl rfl
 simp only[go_sem,seval,su,st]<;>rfl
def TD (l:Option (List bh))(i:Int)(v:Int):Option (Option (List bh)):=gj l i fun x=>I { x with version:=v }
theorem jf7 {l i v r}(h:TD l i v=I r):qc pr (X pr) 231 [sl 8 bI l,Iv i,.fn (.func 237) [] [.ai (Iv v)]]=I (sl 8 bI r,En):=
 EW (fun n x y hx hy=>by cases hy;exact⟨_,zcd hx,zz⟩) h
theorem zav {l i x b}(hx:l[i]?=I x):qm pr (X pr) 238 [.ptr 0 (i*8),.ai (bI b)] [.cells (bO bI l)]=I (.aI [],En,[.cells (bO bI (l.set i { x with partner:=b.name }))]):=by
 rw[qj (show pr.bG 238=I sw from rfl) (by simp)]
 have st:jo (bO bI l) (i*8+5) [.str b.name]=I (bO bI (l.set i { x with partner:=b.name })):=mL (o:=5) en.len hx (Es rfl) rfl rfl
 simp only[go_sem,seval,sw,st,bI]<;>rfl
def vu (l:Option (List bh))(i:Int)(b:bh):Option (Option (List bh)):=gj l i fun x=>I { x with partner:=b.name }
theorem jgu {l i b r}(h:vu l i b=I r):qc pr (X pr) 231 [sl 8 bI l,Iv i,.fn (.func 238) [] [.ai (bI b)]]=I (sl 8 bI r,En):=
 EW (fun n x y hx hy=>by cases hy;exact⟨_,zav hx,zz⟩) h
theorem zh6 {l i x b}(hx:l[i]?=I x):qm pr (X pr) 239 [.ptr 0 (i*8),.ai (bI b)] [.cells (bO bI l)]=I (.aI [],En,[.cells (bO bI (l.set i { x with partner:=b.name }))]):=by
 rw[qj (show pr.bG 239=I sx from rfl) (by simp)]
 have st:jo (bO bI l) (i*8+5) [.str b.name]=I (bO bI (l.set i { x with partner:=b.name })):=mL (o:=5) en.len hx (Es rfl) rfl rfl
 simp only[go_sem,seval,sx,st,bI]<;>rfl
def vw (l:Option (List bh))(i:Int)(b:bh):Option (Option (List bh)):=gj l i fun x=>I { x with partner:=b.name }
theorem jgy {l i b r}(h:vw l i b=I r):qc pr (X pr) 231 [sl 8 bI l,Iv i,.fn (.func 239) [] [.ai (bI b)]]=I (sl 8 bI r,En):=
 EW (fun n x y hx hy=>by cases hy;exact⟨_,zh6 hx,zz⟩) h
theorem zdt {l i x v}(hx:l[i]?=I x):qm pr (X pr) 228 [.ptr 0 (i*5),.ai (Iv v)] [.cells (bO jd l)]=I (.aI [],En,[.cells (bO jd (l.set i { x with left:=qe .i64 (x.left-v) }))]):=by
 rw[qj (show pr.bG 228=I sA from rfl) (by simp)]
 have st:jo (bO jd l) (i*5+3) [Iv (qe .i64 (x.left-v))]=I (bO jd (l.set i { x with left:=qe .i64 (x.left-v) })):=mL (o:=3) gk.len hx (Es rfl) rfl rfl
 have XX:zf (bO jd l) (i*5+3) 1=I [Iv x.left]:=vn (o:=3) gk.len hx (by decide)
 simp only[go_sem,seval,sA,st,XX]<;>rfl
def TH (l:Option (List jc))(i:Int)(v:Int):Option (Option (List jc)):=gj l i fun x=>I { x with left:=qe .i64 (x.left-v) }
theorem jhg {l i v r}(h:TH l i v=I r):qc pr (X pr) 227 [sl 5 jd l,Iv i,.fn (.func 228) [] [.ai (Iv v)]]=I (sl 5 jd r,En):=
 XW (fun n x y hx hy=>by cases hy;exact⟨_,zdt hx,zz⟩) h
theorem zfr {l i x b}(hx:l[i]?=I x):qm pr (X pr) 272 [.ptr 0 (i*2),.ai (bp b)] [.cells (bO bp l)]=I (.aI [],En,[.cells (bO bp (l.set i b))]):=by
 rw[qj (show pr.bG 272=I sB from rfl) (by simp)]
 have st:jo (bO bp l) (i*2) [.str b.k,Iv b.n]=I (bO bp (l.set i b)):=mL (o:=0) oZ.len hx (Es rfl) rfl rfl
 simp only[go_sem,seval,sB,st,bp]<;>rfl
def jxh (l:Option (List bn))(i:Int)(b:bn):Option (Option (List bn)):=gj l i fun x=>I b
theorem jgv {l i b r}(h:jxh l i b=I r):qc pr (X pr) 271 [sl 2 bp l,Iv i,.fn (.func 272) [] [.ai (bp b)]]=I (sl 2 bp r,En):=
 j3b (fun n x y hx hy=>by cases hy;exact⟨_,zfr hx,zz⟩) h
theorem zg4 {l i x b}(hx:l[i]?=I x):qm pr (X pr) 276 [.ptr 0 (i*3),.ai (q9 b)] [.cells (bO q9 l)]=I (.aI [],En,[.cells (bO q9 (l.set i b))]):=by
 rw[qj (show pr.bG 276=I sC from rfl) (by simp)]
 have st:jo (bO q9 l) (i*3) [.str b.k,Iv b.a,Iv b.b]=I (bO q9 (l.set i b)):=mL (o:=0) rV.len hx (Es rfl) rfl rfl
 simp only[go_sem,seval,sC,st,q9]<;>rfl
def jr3 (l:Option (List jb))(i:Int)(b:jb):Option (Option (List jb)):=gj l i fun x=>I b
theorem jjr {l i b r}(h:jr3 l i b=I r):qc pr (X pr) 275 [sl 3 q9 l,Iv i,.fn (.func 276) [] [.ai (q9 b)]]=I (sl 3 q9 r,En):=
 jyr (fun n x y hx hy=>by cases hy;exact⟨_,zg4 hx,zz⟩) h
theorem zh4 {l i x b}(hx:l[i]?=I x):qm pr (X pr) 283 [.ptr 0 (i*2),.ai (bp b)] [.cells (bO bp l)]=I (.aI [],En,[.cells (bO bp (l.set i b))]):=by
 rw[qj (show pr.bG 283=I sD from rfl) (by simp)]
 have st:jo (bO bp l) (i*2) [.str b.k,Iv b.n]=I (bO bp (l.set i b)):=mL (o:=0) oZ.len hx (Es rfl) rfl rfl
 simp only[go_sem,seval,sD,st,bp]<;>rfl
def jwc (l:Option (List bn))(i:Int)(b:bn):Option (Option (List bn)):=gj l i fun x=>I b
theorem jhh {l i b r}(h:jwc l i b=I r):qc pr (X pr) 282 [sl 2 bp l,Iv i,.fn (.func 283) [] [.ai (bp b)]]=I (sl 2 bp r,En):=
 j48 (fun n x y hx hy=>by cases hy;exact⟨_,zh4 hx,zz⟩) h
end Go.Z
namespace Go.Z
open Go Go.Abs Go.W
def Jh (a0:bn)(a1:List UInt8):Option Bool:=
 I (decide (a0.k=a1))
theorem XY (hp:qh){a0 a1 r}(h:Jh a0 a1=I r):qm pr (X pr) 211 [aN a0,.ai (.str a1)] hp=I (.bool r,En,hp):=by
 unfold Jh at h
 have hr:decide (a0.k=a1)=r:=I.inj h
 subst hr
 rw[qj (show pr.bG 211=I sE from rfl) (by simp)]
 simp only[go_sem,seval,sE]<;>rfl
def MP (a0:Option (List bn))(ax:List UInt8)(s0:Int):Option (Int⊕(Int⊕Int)):=
 cond (decide (s0<((a0.getD []).length:Int)))
  (qa (qq (a0.getD []) s0) fun ei=>
  qa (Jh ei ax) fun dU=>
  cond dU
   (I (.inr (.inl s0)))
   (I (.inl (qe .i64 (s0+1)))))
  (I (.inr (.inr s0)))
def MQ (a0:Option (List bn))(ax:List UInt8)(hp:qh)(s0:Int):bf:=⟨[(0,sl 2 bp a0,En),(1,.fn (.func 211) [] [.ai (.str ax)],En),(7,Lv a0,En),(8,Iv s0,En)],hp⟩
def MR (a0:Option (List bn))(ax:List UInt8)(hp:qh):Int⊕Int→je×bf
 | .inl d=>(.ret,⟨[(4,Iv d,En)],hp⟩)
 | .inr d=>(.exit 0,⟨[(0,sl 2 bp a0,En),(1,.fn (.func 211) [] [.ai (.str ax)],En),(7,Lv a0,En),(8,Iv d,En),(9,.bool En,En)],hp⟩)
theorem jnh (a0:Option (List bn))(ax:List UInt8)(hp:qh)(s0:Int)(r)(h:MP a0 ax s0=I r):jw pr pg (MQ a0 ax hp) (MR a0 ax hp) s0 r:=by
 unfold MP at h
 repeat' first|(replace h:=qb h;obtain⟨d,g,h⟩:=h;with_reducible first|replace g:=XY hp g|skip)|(replace h:=qd h;rcases h with⟨g,h⟩|⟨g,h⟩)
 all_goals (cases h<;>((first|refine qx ?_|refine jq ?_);simp only[go_sem,seval,pg,MQ,jg,MR, *]<;>rfl))
theorem jpj (a0:Option (List bn))(ax:List UInt8)(hp:qh){s0 d}(h:bB (MP a0 ax) s0=I d):X pr (.loop pg) (MQ a0 ax hp s0)=I (MR a0 ax hp d):=ze (jnh a0 ax hp) h
def HJ (a0:Option (List bn))(ax:List UInt8):Option Int:=
 qa (bB (MP a0 ax) 0) fun d19=>match d19 with
  | .inl d21=>
   I d21
  | .inr d22=>
   I (-1)
theorem j0f (hp:qh){a0 ax r}(h:HJ a0 ax=I r):qm pr (X pr) 250 [sl 2 bp a0,.fn (.func 211) [] [.ai (.str ax)]] hp=I (Iv r,En,hp):=by
 unfold HJ at h
 rw[qj (show pr.bG 250=I iX from rfl) (by simp)]
 repeat' first|(replace h:=qb h;obtain⟨d,g,h⟩:=h;with_reducible first|(replace g:=jpj a0 ax hp g;rcases d with d|d<;>dsimp only[MQ,MR,zg]at g h)|skip)|(replace h:=qd h;rcases h with⟨g,h⟩|⟨g,h⟩)
 all_goals (cases h<;>(simp only[go_sem,seval,iX, *]<;>rfl))
def MS (a0:Option (List bn))(ax:List UInt8)(s0:Int):Option (Int⊕(Int⊕Int)):=
 cond (decide (s0<((a0.getD []).length:Int)))
  (qa (qq (a0.getD []) s0) fun ei=>
  qa (Jh ei ax) fun dU=>
  cond dU
   (I (.inr (.inl s0)))
   (I (.inl (qe .i64 (s0+1)))))
  (I (.inr (.inr s0)))
def MT (a0:Option (List bn))(ax:List UInt8)(s0:Int):bf:=⟨[(0,sl 2 bp a0,En),(1,.fn (.func 211) [] [.ai (.str ax)],En),(7,Lv a0,En),(8,Iv s0,En)],[]⟩
def MU (a0:Option (List bn))(ax:List UInt8):Int⊕Int→je×bf
 | .inl d=>(.ret,⟨[(4,Iv d,En)],[]⟩)
 | .inr d=>(.exit 0,⟨[(0,sl 2 bp a0,En),(1,.fn (.func 211) [] [.ai (.str ax)],En),(7,Lv a0,En),(8,Iv d,En),(9,.bool En,En)],[]⟩)
theorem jog (a0:Option (List bn))(ax:List UInt8)(s0:Int)(r)(h:MS a0 ax s0=I r):jw pr pg (MT a0 ax) (MU a0 ax) s0 r:=by
 unfold MS at h
 repeat' first|(replace h:=qb h;obtain⟨d,g,h⟩:=h;with_reducible first|replace g:=XY [] g|skip)|(replace h:=qd h;rcases h with⟨g,h⟩|⟨g,h⟩)
 all_goals (cases h<;>((first|refine qx ?_|refine jq ?_);simp only[go_sem,seval,pg,MT,jg,MU, *]<;>rfl))
theorem joq (a0:Option (List bn))(ax:List UInt8){s0 d}(h:bB (MS a0 ax) s0=I d):X pr (.loop pg) (MT a0 ax s0)=I (MU a0 ax d):=ze (jog a0 ax) h
def HC (a0:Option (List bn))(ax:List UInt8):Option Int:=
 qa (bB (MS a0 ax) 0) fun d19=>match d19 with
  | .inl d21=>
   I d21
  | .inr d22=>
   I (-1)
theorem j0p {a0 ax r}(h:HC a0 ax=I r):qc pr (X pr) 250 [sl 2 bp a0,.fn (.func 211) [] [.ai (.str ax)]]=I (Iv r,En):=by
 unfold HC at h
 refine zd iX ?_
 repeat' first|(replace h:=qb h;obtain⟨d,g,h⟩:=h;with_reducible first|(replace g:=joq a0 ax g;rcases d with d|d<;>dsimp only[MT,MU,zg]at g h)|skip)|(replace h:=qd h;rcases h with⟨g,h⟩|⟨g,h⟩)
 all_goals (cases h<;>(simp only[go_sem,seval,iX, *];exact⟨_,rfl⟩))
def HI (a0:Option (List bn))(ax:List UInt8):Option Bool:=
 qa (HJ a0 ax) fun v1=>
 I (decide (0≤v1))
theorem jz8 {a0 ax r}(h:HI a0 ax=I r):qc pr (X pr) 193 [sl 2 bp a0,.fn (.func 211) [] [.ai (.str ax)]]=I (.bool r,En):=by
 unfold HI at h
 refine zd lj ?_
 repeat' first|(replace h:=qb h;obtain⟨d,g,h⟩:=h;with_reducible first|replace g:=j0f [] g|skip)|(replace h:=qd h;rcases h with⟨g,h⟩|⟨g,h⟩)
 all_goals (cases h<;>(simp only[go_sem,seval,lj, *];exact⟨_,rfl⟩))
def XZ (a0:bn)(a1:jc):Option Bool:=
 I (decide (a0.k=a1.kind))
theorem zdl (hp:qh){a0 a1 r}(h:XZ a0 a1=I r):qm pr (X pr) 226 [aN a0,.ai (aL a1)] hp=I (.bool r,En,hp):=by
 unfold XZ at h
 have hr:decide (a0.k=a1.kind)=r:=I.inj h
 subst hr
 rw[qj (show pr.bG 226=I sF from rfl) (by simp)]
 simp only[go_sem,seval,sF]<;>rfl
def MV (a0:Option (List bn))(ax:jc)(s0:Int):Option (Int⊕(Int⊕Int)):=
 cond (decide (s0<((a0.getD []).length:Int)))
  (qa (qq (a0.getD []) s0) fun ei=>
  qa (XZ ei ax) fun dU=>
  cond dU
   (I (.inr (.inl s0)))
   (I (.inl (qe .i64 (s0+1)))))
  (I (.inr (.inr s0)))
def MW (a0:Option (List bn))(ax:jc)(hp:qh)(s0:Int):bf:=⟨[(0,sl 2 bp a0,En),(1,.fn (.func 226) [] [.ai (aL ax)],En),(7,Lv a0,En),(8,Iv s0,En)],hp⟩
def MX (a0:Option (List bn))(ax:jc)(hp:qh):Int⊕Int→je×bf
 | .inl d=>(.ret,⟨[(4,Iv d,En)],hp⟩)
 | .inr d=>(.exit 0,⟨[(0,sl 2 bp a0,En),(1,.fn (.func 226) [] [.ai (aL ax)],En),(7,Lv a0,En),(8,Iv d,En),(9,.bool En,En)],hp⟩)
theorem jn6 (a0:Option (List bn))(ax:jc)(hp:qh)(s0:Int)(r)(h:MV a0 ax s0=I r):jw pr pg (MW a0 ax hp) (MX a0 ax hp) s0 r:=by
 unfold MV at h
 repeat' first|(replace h:=qb h;obtain⟨d,g,h⟩:=h;with_reducible first|replace g:=zdl hp g|skip)|(replace h:=qd h;rcases h with⟨g,h⟩|⟨g,h⟩)
 all_goals (cases h<;>((first|refine qx ?_|refine jq ?_);simp only[go_sem,seval,pg,MW,jg,MX, *]<;>rfl))
theorem jof (a0:Option (List bn))(ax:jc)(hp:qh){s0 d}(h:bB (MV a0 ax) s0=I d):X pr (.loop pg) (MW a0 ax hp s0)=I (MX a0 ax hp d):=ze (jn6 a0 ax hp) h
def HL (a0:Option (List bn))(ax:jc):Option Int:=
 qa (bB (MV a0 ax) 0) fun d19=>match d19 with
  | .inl d21=>
   I d21
  | .inr d22=>
   I (-1)
theorem j21 (hp:qh){a0 ax r}(h:HL a0 ax=I r):qm pr (X pr) 250 [sl 2 bp a0,.fn (.func 226) [] [.ai (aL ax)]] hp=I (Iv r,En,hp):=by
 unfold HL at h
 rw[qj (show pr.bG 250=I iX from rfl) (by simp)]
 repeat' first|(replace h:=qb h;obtain⟨d,g,h⟩:=h;with_reducible first|(replace g:=jof a0 ax hp g;rcases d with d|d<;>dsimp only[MW,MX,zg]at g h)|skip)|(replace h:=qd h;rcases h with⟨g,h⟩|⟨g,h⟩)
 all_goals (cases h<;>(simp only[go_sem,seval,iX, *]<;>rfl))
def HK (a0:Option (List bn))(ax:jc):Option Bool:=
 qa (HL a0 ax) fun v1=>
 I (decide (0≤v1))
theorem j68 {a0 ax r}(h:HK a0 ax=I r):qc pr (X pr) 193 [sl 2 bp a0,.fn (.func 226) [] [.ai (aL ax)]]=I (.bool r,En):=by
 unfold HK at h
 refine zd lj ?_
 repeat' first|(replace h:=qb h;obtain⟨d,g,h⟩:=h;with_reducible first|replace g:=j21 [] g|skip)|(replace h:=qd h;rcases h with⟨g,h⟩|⟨g,h⟩)
 all_goals (cases h<;>(simp only[go_sem,seval,lj, *];exact⟨_,rfl⟩))
def LY (a0:bn)(mf:List UInt8):Option Bool:=
 qa (Jh a0 mf) fun v1=>
 I (!v1)
theorem zeo (hp:qh){a0 mf r}(h:LY a0 mf=I r):qm pr (X pr) 215 [aN a0,.ai (.fn (.func 211) [] [.ai (.str mf)])] hp=I (.bool r,En,hp):=by
 unfold LY at h
 obtain⟨v1,h2,h⟩:=qb h
 have sG:qm pr (X pr) 211 [aN a0,.ai (.str mf)] hp=I (.bool v1,En,hp):=XY hp h2
 have hr:(!v1)=r:=I.inj h
 subst hr
 rw[qj (show pr.bG 215=I sH from rfl) (by simp)]
 simp only[go_sem,seval,sH,sG]<;>rfl
def HG (a0:Option (List bn))(cg:List UInt8)(s0:(Option (List bn))×Int×Bool):Option (((Option (List bn))×Int×Bool)⊕(((Option (List bn))×Bool×Int))):=
 cond (decide (s0.2.1<((a0.getD []).length:Int)))
  (qa (qq (a0.getD []) s0.2.1) fun v20=>
  qa (LY v20 cg) fun v22=>
  cond v22
   (cond s0.2.2
    (qa (bq s0.1 [v20]) fun v26=>
    I (.inl (v26,qe .i64 (s0.2.1+1),Ga)))
    (cond s0.1.isNone
     (qa (bq s0.1 [v20]) fun hO=>
     I (.inl (hO,qe .i64 (s0.2.1+1),Ga)))
     (Ge)))
   (I (.inl (s0.1,qe .i64 (s0.2.1+1),s0.2.2))))
  (I (.inr (s0.1,s0.2.2,s0.2.1)))
def MY (a0:Option (List bn))(cg:List UInt8)(hp:qh)(s0:(Option (List bn))×Int×Bool):bf:=⟨[(1,.fn (.func 215) [] [.ai (.fn (.func 211) [] [.ai (.str cg)])],En),(5,sl 2 bp s0.1,s0.2.2),(8,sl 2 bp a0,En),(9,Lv a0,En),(10,Iv s0.2.1,En)],hp⟩
def MZ (a0:Option (List bn))(cg:List UInt8)(hp:qh)(d:((Option (List bn))×Bool×Int)):je×bf:=(.exit 0,⟨[(1,.fn (.func 215) [] [.ai (.fn (.func 211) [] [.ai (.str cg)])],En),(5,sl 2 bp d.1,d.2.1),(8,sl 2 bp a0,En),(9,Lv a0,En),(10,Iv d.2.2,En),(11,.bool En,En)],hp⟩)
theorem jxa (a0:Option (List bn))(cg:List UInt8)(hp:qh)(s0:(Option (List bn))×Int×Bool)(r)(h:HG a0 cg s0=I r):jw pr M0 (MY a0 cg hp) (MZ a0 cg hp) s0 r:=by
 unfold HG at h
 repeat' first|(replace h:=qb h;obtain⟨d,g,h⟩:=h;with_reducible first|replace g:=zeo hp g|replace g:=wz g|skip)|(replace h:=qd h;rcases h with⟨g,h⟩|⟨g,h⟩)
 all_goals (cases h<;>((first|refine qx ?_|refine jq ?_);simp only[go_sem,seval,M0,MY,jg,MZ, *]<;>rfl))
theorem jto (a0:Option (List bn))(cg:List UInt8)(hp:qh){s0 d}(h:bB (HG a0 cg) s0=I d):X pr (.loop M0) (MY a0 cg hp s0)=I (MZ a0 cg hp d):=ze (jxa a0 cg hp) h
def HF (a0:Option (List bn))(cg:List UInt8):Option ((Option (List bn))×Bool):=
 qa (bB (HG a0 cg) (Ge,0,En)) fun d31=>
 I (d31.1,d31.2.1)
theorem zfi (hp:qh){a0 cg r}(h:HF a0 cg=I r):qm pr (X pr) 214 [sl 2 bp a0,.fn (.func 215) [] [.ai (.fn (.func 211) [] [.ai (.str cg)])]] hp=I (sl 2 bp r.1,r.2,hp):=by
 unfold HF at h
 rw[qj (show pr.bG 214=I sI from rfl) (by simp)]
 repeat' first|(replace h:=qb h;obtain⟨d,g,h⟩:=h;with_reducible first|(replace g:=jto a0 cg hp g;dsimp only[MY,MZ,zg]at g h)|skip)|(replace h:=qd h;rcases h with⟨g,h⟩|⟨g,h⟩)
 all_goals (cases h<;>(simp only[go_sem,seval,sI, *]<;>rfl))
def HA (a0:Option (List bn))(a1:bn)(dP:List UInt8):Option ((Option (List bn))×Bool):=
 qa (HC a0 dP) fun v1=>
 cond (decide (0≤v1))
  (qa (jxh a0 v1 a1) fun v4=>
  I (v4,En))
  (qa (LW a0 a1) fun v6=>
  I (v6,Ga))
theorem zf2 {a0 a1 dP r}(h:HA a0 a1 dP=I r):qc pr (X pr) 216 [sl 2 bp a0,aN a1,.fn (.func 211) [] [.ai (.str dP)]]=I (sl 2 bp r.1,r.2):=by
 unfold HA at h
 refine kr sJ ?_
 repeat' first|(replace h:=qb h;obtain⟨d,g,h⟩:=h; (with_reducible first|replace g:=j0p g|replace g:=jgv g|replace g:=zb3 g|skip);try dsimp only[zg,l3,Gj,zy,yf,jd,qu,bI,jf,vev,bp,q9,yb,aE,aR,aU,aL,aP,aD]at g)|(replace h:=qd h;rcases h with⟨g,h⟩|⟨g,h⟩)
 all_goals (cases h<;>(simp only[go_sem,seval,sJ, *];exact⟨_,rfl⟩))
def f217 (a0:jb)(a1:jb):Option Bool:=
 I (decide (a0.k=a1.k))
theorem zhp (hp:qh){a0 a1 r}(h:f217 a0 a1=I r):qm pr (X pr) 217 [aT a0,.ai (aT a1)] hp=I (.bool r,En,hp):=by
 unfold f217 at h
 have hr:decide (a0.k=a1.k)=r:=I.inj h
 subst hr
 rw[qj (show pr.bG 217=I sK from rfl) (by simp)]
 simp only[go_sem,seval,sK]<;>rfl
def M1 (a0:Option (List jb))(ax:jb)(s0:Int):Option (Int⊕(Int⊕Int)):=
 cond (decide (s0<((a0.getD []).length:Int)))
  (qa (qq (a0.getD []) s0) fun ei=>
  qa (f217 ei ax) fun dU=>
  cond dU
   (I (.inr (.inl s0)))
   (I (.inl (qe .i64 (s0+1)))))
  (I (.inr (.inr s0)))
def M2 (a0:Option (List jb))(ax:jb)(s0:Int):bf:=⟨[(0,sl 3 q9 a0,En),(1,.fn (.func 217) [] [.ai (aT ax)],En),(7,Lv a0,En),(8,Iv s0,En)],[]⟩
def M3 (a0:Option (List jb))(ax:jb):Int⊕Int→je×bf
 | .inl d=>(.ret,⟨[(4,Iv d,En)],[]⟩)
 | .inr d=>(.exit 0,⟨[(0,sl 3 q9 a0,En),(1,.fn (.func 217) [] [.ai (aT ax)],En),(7,Lv a0,En),(8,Iv d,En),(9,.bool En,En)],[]⟩)
theorem jni (a0:Option (List jb))(ax:jb)(s0:Int)(r)(h:M1 a0 ax s0=I r):jw pr B7 (M2 a0 ax) (M3 a0 ax) s0 r:=by
 unfold M1 at h
 repeat' first|(replace h:=qb h;obtain⟨d,g,h⟩:=h;with_reducible first|replace g:=zhp [] g|skip)|(replace h:=qd h;rcases h with⟨g,h⟩|⟨g,h⟩)
 all_goals (cases h<;>((first|refine qx ?_|refine jq ?_);simp only[go_sem,seval,B7,M2,jg,M3, *]<;>rfl))
theorem jol (a0:Option (List jb))(ax:jb){s0 d}(h:bB (M1 a0 ax) s0=I d):X pr (.loop B7) (M2 a0 ax s0)=I (M3 a0 ax d):=ze (jni a0 ax) h
def yS (a0:Option (List jb))(ax:jb):Option Int:=
 qa (bB (M1 a0 ax) 0) fun d19=>match d19 with
  | .inl d21=>
   I d21
  | .inr d22=>
   I (-1)
theorem jly {a0 ax r}(h:yS a0 ax=I r):qc pr (X pr) 274 [sl 3 q9 a0,.fn (.func 217) [] [.ai (aT ax)]]=I (Iv r,En):=by
 unfold yS at h
 refine zd nI ?_
 repeat' first|(replace h:=qb h;obtain⟨d,g,h⟩:=h;with_reducible first|(replace g:=jol a0 ax g;rcases d with d|d<;>dsimp only[M2,M3,zg]at g h)|skip)|(replace h:=qd h;rcases h with⟨g,h⟩|⟨g,h⟩)
 all_goals (cases h<;>(simp only[go_sem,seval,nI, *];exact⟨_,rfl⟩))
def HM (a0:Option (List jb))(ax:jb):Option Bool:=
 qa (yS a0 ax) fun v1=>
 I (decide (0≤v1))
theorem jzk {a0 ax r}(h:HM a0 ax=I r):qc pr (X pr) 218 [sl 3 q9 a0,.fn (.func 217) [] [.ai (aT ax)]]=I (.bool r,En):=by
 unfold HM at h
 refine zd nJ ?_
 repeat' first|(replace h:=qb h;obtain⟨d,g,h⟩:=h;with_reducible first|replace g:=jly g|skip)|(replace h:=qd h;rcases h with⟨g,h⟩|⟨g,h⟩)
 all_goals (cases h<;>(simp only[go_sem,seval,nJ, *];exact⟨_,rfl⟩))
def HD (a0:Option (List jb))(a1:jb)(dP:jb):Option ((Option (List jb))×Bool):=
 qa (yS a0 dP) fun v1=>
 cond (decide (0≤v1))
  (qa (jr3 a0 v1 a1) fun v4=>
  I (v4,En))
  (qa (f277 a0 a1) fun v6=>
  I (v6,Ga))
theorem za6 {a0 a1 dP r}(h:HD a0 a1 dP=I r):qc pr (X pr) 220 [sl 3 q9 a0,aT a1,.fn (.func 217) [] [.ai (aT dP)]]=I (sl 3 q9 r.1,r.2):=by
 unfold HD at h
 refine kr sL ?_
 repeat' first|(replace h:=qb h;obtain⟨d,g,h⟩:=h; (with_reducible first|replace g:=jly g|replace g:=jjr g|replace g:=zi1 g|skip);try dsimp only[zg,l3,Gj,zy,yf,jd,qu,bI,jf,vev,bp,q9,yb,aE,aR,aU,aL,aP,aD]at g)|(replace h:=qd h;rcases h with⟨g,h⟩|⟨g,h⟩)
 all_goals (cases h<;>(simp only[go_sem,seval,sL, *];exact⟨_,rfl⟩))
def LZ (a0:jb)(a1:GEv):Option Bool:=
 qa (qq (a1.names.getD []) 1) fun v1=>
 I (decide (a0.k=v1))
theorem zey (hp:qh){a0 a1 r}(h:LZ a0 a1=I r):qm pr (X pr) 234 [aT a0,.ai (aE a1)] hp=I (.bool r,En,hp):=by
 unfold LZ at h
 obtain⟨v1,h2,h⟩:=qb h
 have hr:decide (a0.k=v1)=r:=I.inj h
 subst hr
 rw[qj (show pr.bG 234=I sM from rfl) (by simp)]
 simp only[go_sem,seval,sM,zh h2]<;>rfl
def HP (a0:Option (List jb))(ax:GEv)(s0:Int):Option (Int⊕(Int⊕Int)):=
 cond (decide (s0<((a0.getD []).length:Int)))
  (qa (qq (a0.getD []) s0) fun ei=>
  qa (LZ ei ax) fun dU=>
  cond dU
   (I (.inr (.inl s0)))
   (I (.inl (qe .i64 (s0+1)))))
  (I (.inr (.inr s0)))
def M4 (a0:Option (List jb))(ax:GEv)(s0:Int):bf:=⟨[(0,sl 3 q9 a0,En),(1,.fn (.func 234) [] [.ai (aE ax)],En),(7,Lv a0,En),(8,Iv s0,En)],[]⟩
def M5 (a0:Option (List jb))(ax:GEv):Int⊕Int→je×bf
 | .inl d=>(.ret,⟨[(4,Iv d,En)],[]⟩)
 | .inr d=>(.exit 0,⟨[(0,sl 3 q9 a0,En),(1,.fn (.func 234) [] [.ai (aE ax)],En),(7,Lv a0,En),(8,Iv d,En),(9,.bool En,En)],[]⟩)
theorem jot (a0:Option (List jb))(ax:GEv)(s0:Int)(r)(h:HP a0 ax s0=I r):jw pr B7 (M4 a0 ax) (M5 a0 ax) s0 r:=by
 unfold HP at h
 repeat' first|(replace h:=qb h;obtain⟨d,g,h⟩:=h;with_reducible first|replace g:=zey [] g|skip)|(replace h:=qd h;rcases h with⟨g,h⟩|⟨g,h⟩)
 all_goals (cases h<;>((first|refine qx ?_|refine jq ?_);simp only[go_sem,seval,B7,M4,jg,M5, *]<;>rfl))
theorem jph (a0:Option (List jb))(ax:GEv){s0 d}(h:bB (HP a0 ax) s0=I d):X pr (.loop B7) (M4 a0 ax s0)=I (M5 a0 ax d):=ze (jot a0 ax) h
def HO (a0:Option (List jb))(ax:GEv):Option Int:=
 qa (bB (HP a0 ax) 0) fun d19=>match d19 with
  | .inl d21=>
   I d21
  | .inr d22=>
   I (-1)
theorem jy3 {a0 ax r}(h:HO a0 ax=I r):qc pr (X pr) 274 [sl 3 q9 a0,.fn (.func 234) [] [.ai (aE ax)]]=I (Iv r,En):=by
 unfold HO at h
 refine zd nI ?_
 repeat' first|(replace h:=qb h;obtain⟨d,g,h⟩:=h;with_reducible first|(replace g:=jph a0 ax g;rcases d with d|d<;>dsimp only[M4,M5,zg]at g h)|skip)|(replace h:=qd h;rcases h with⟨g,h⟩|⟨g,h⟩)
 all_goals (cases h<;>(simp only[go_sem,seval,nI, *];exact⟨_,rfl⟩))
def HN (a0:Option (List jb))(ax:GEv):Option Bool:=
 qa (HO a0 ax) fun v1=>
 I (decide (0≤v1))
theorem j2t {a0 ax r}(h:HN a0 ax=I r):qc pr (X pr) 218 [sl 3 q9 a0,.fn (.func 234) [] [.ai (aE ax)]]=I (.bool r,En):=by
 unfold HN at h
 refine zd nJ ?_
 repeat' first|(replace h:=qb h;obtain⟨d,g,h⟩:=h;with_reducible first|replace g:=jy3 g|skip)|(replace h:=qd h;rcases h with⟨g,h⟩|⟨g,h⟩)
 all_goals (cases h<;>(simp only[go_sem,seval,nJ, *];exact⟨_,rfl⟩))
def X0 (a0:bn)(a1:jc):Option Bool:=
 I (decide (a0.k=a1.name))
theorem zc2 (hp:qh){a0 a1 r}(h:X0 a0 a1=I r):qm pr (X pr) 229 [aN a0,.ai (aL a1)] hp=I (.bool r,En,hp):=by
 unfold X0 at h
 have hr:decide (a0.k=a1.name)=r:=I.inj h
 subst hr
 rw[qj (show pr.bG 229=I sN from rfl) (by simp)]
 simp only[go_sem,seval,sN]<;>rfl
def M6 (a0:Option (List bn))(ax:jc)(s0:Int):Option (Int⊕(Int⊕Int)):=
 cond (decide (s0<((a0.getD []).length:Int)))
  (qa (qq (a0.getD []) s0) fun ei=>
  qa (X0 ei ax) fun dU=>
  cond dU
   (I (.inr (.inl s0)))
   (I (.inl (qe .i64 (s0+1)))))
  (I (.inr (.inr s0)))
def M7 (a0:Option (List bn))(ax:jc)(s0:Int):bf:=⟨[(0,sl 2 bp a0,En),(1,.fn (.func 229) [] [.ai (aL ax)],En),(7,Lv a0,En),(8,Iv s0,En)],[]⟩
def M8 (a0:Option (List bn))(ax:jc):Int⊕Int→je×bf
 | .inl d=>(.ret,⟨[(4,Iv d,En)],[]⟩)
 | .inr d=>(.exit 0,⟨[(0,sl 2 bp a0,En),(1,.fn (.func 229) [] [.ai (aL ax)],En),(7,Lv a0,En),(8,Iv d,En),(9,.bool En,En)],[]⟩)
theorem jw1 (a0:Option (List bn))(ax:jc)(s0:Int)(r)(h:M6 a0 ax s0=I r):jw pr M9 (M7 a0 ax) (M8 a0 ax) s0 r:=by
 unfold M6 at h
 repeat' first|(replace h:=qb h;obtain⟨d,g,h⟩:=h;with_reducible first|replace g:=zc2 [] g|skip)|(replace h:=qd h;rcases h with⟨g,h⟩|⟨g,h⟩)
 all_goals (cases h<;>((first|refine qx ?_|refine jq ?_);simp only[go_sem,seval,M9,M7,jg,M8, *]<;>rfl))
theorem jwx (a0:Option (List bn))(ax:jc){s0 d}(h:bB (M6 a0 ax) s0=I d):X pr (.loop M9) (M7 a0 ax s0)=I (M8 a0 ax d):=ze (jw1 a0 ax) h
def yT (a0:Option (List bn))(ax:jc):Option Int:=
 qa (bB (M6 a0 ax) 0) fun d19=>match d19 with
  | .inl d21=>
   I d21
  | .inr d22=>
   I (-1)
theorem jwh {a0 ax r}(h:yT a0 ax=I r):qc pr (X pr) 230 [sl 2 bp a0,.fn (.func 229) [] [.ai (aL ax)]]=I (Iv r,En):=by
 unfold yT at h
 refine zd sO ?_
 repeat' first|(replace h:=qb h;obtain⟨d,g,h⟩:=h;with_reducible first|(replace g:=jwx a0 ax g;rcases d with d|d<;>dsimp only[M7,M8,zg]at g h)|skip)|(replace h:=qd h;rcases h with⟨g,h⟩|⟨g,h⟩)
 all_goals (cases h<;>(simp only[go_sem,seval,sO, *];exact⟨_,rfl⟩))
def HE (a0:Option (List bn))(a1:bn)(dP:jc):Option ((Option (List bn))×Bool):=
 qa (yT a0 dP) fun v1=>
 cond (decide (0≤v1))
  (qa (jwc a0 v1 a1) fun v4=>
  I (v4,En))
  (qa (f284 a0 a1) fun v6=>
  I (v6,Ga))
theorem zhx {a0 a1 dP r}(h:HE a0 a1 dP=I r):qc pr (X pr) 233 [sl 2 bp a0,aN a1,.fn (.func 229) [] [.ai (aL dP)]]=I (sl 2 bp r.1,r.2):=by
 unfold HE at h
 refine kr sP ?_
 repeat' first|(replace h:=qb h;obtain⟨d,g,h⟩:=h; (with_reducible first|replace g:=jwh g|replace g:=jhh g|replace g:=zdf g|skip);try dsimp only[zg,l3,Gj,zy,yf,jd,qu,bI,jf,vev,bp,q9,yb,aE,aR,aU,aL,aP,aD]at g)|(replace h:=qd h;rcases h with⟨g,h⟩|⟨g,h⟩)
 all_goals (cases h<;>(simp only[go_sem,seval,sP, *];exact⟨_,rfl⟩))
end Go.Z
namespace Go.Z
open Go Go.Abs Go.W
theorem EX {α:Type}{f:α→AVal}{sz}(E:oY f sz){l i o x y u}(hx:l[i]?=I x)(ho:o<sz)(hy:(f y).flat=(f x).flat.set o u)(w:Bool):((bO f l).set (i*sz+o) (u,w)).map (·.1)=j8 f (l.set i y):=by
 have h:=congrArg (Gj (·.1)) (q6n E.len hx ho hy)
 rw[List.map_set]at h ⊢
 rw[show(bO f (l.set i y)).map (·.1)=j8 f (l.set i y)from zz]at h
 exact h
theorem Ji {α:Type}{f:α→AVal}{sz}(E:oY f sz){l i o x}(hx:l[i]?=I x)(ho:o<sz):i*sz+o<(bO f l).length:=by
 have h:=(DW (n:=1) (o:=o) E.len hx (by omega)).2
 simp only[bO,cellsOf,Gn]
 omega
def HW (c:Int)(nm k:List UInt8)(x:aC):Option aC:=cond (decide (c=0))
 (qa (HF x.dn nm) fun v=>I { x with dn:=v.1 })
 (qa (HA x.dn ⟨k,c⟩ nm) fun v=>I { x with dn:=v.1 })
theorem zfl {l:List aC}{i:Nat}{x y c nm k}(hx:l[i]?=I x)(h:HW c nm k x=I y):
  ∃cs,qm pr (X pr) 213 [.ptr 0 (i*4+1),.ai (Iv c),.ai (.fn (.func 211) [] [.ai (.str nm)]),.ai (.str k)] [.cells (bO qu l)]=I (.aI [],En,[.cells cs])∧cs.map (·.1)=j8 qu (l.set i y):=by
 unfold HW at h
 have ld:zf (bO qu l) (i*4+1) 1=I [sl 2 bp x.dn]:=vn (o:=1) cK.len hx (by decide)
 have hb:=Ji cK (o:=1) hx (by decide)
 rcases qd h with⟨h1,h⟩|⟨h1,h⟩
 ·obtain⟨v,hv,h⟩:=qb h
  cases h
  have w:=zfi [.cells (bO qu l)] hv
  rcases v with⟨v,o⟩
  have hy:(qu { x with dn:=v }).flat=(qu x).flat.set 1 (sl 2 bp v):=rfl
  have st:jo (bO qu l) (i*4+1) [sl 2 bp v]=I (bO qu (l.set i { x with dn:=v })):=mL (o:=1) cK.len hx (Es rfl) (by simp only[Gy,go_sem,Gl]) rfl
  cases o with
  |true=>exact⟨_,by rw[qj (show pr.bG 213=I iY from rfl) (by simp)];simp only[go_sem,seval,iY,h1,ld,w,hb]<;>rfl,EX cK hx (by decide) hy Ga⟩
  |false=>exact⟨_,by rw[qj (show pr.bG 213=I iY from rfl) (by simp)];simp only[go_sem,seval,iY,h1,ld,w,st]<;>rfl,zz⟩
 ·obtain⟨v,hv,h⟩:=qb h
  cases h
  have w:qc pr (X pr) 216 [sl 2 bp x.dn,.agg [.str k,Iv c],.fn (.func 211) [] [.ai (.str nm)]]=I (sl 2 bp v.1,v.2):=zf2 hv
  rcases v with⟨v,o⟩
  have hy:(qu { x with dn:=v }).flat=(qu x).flat.set 1 (sl 2 bp v):=rfl
  have st:jo (bO qu l) (i*4+1) [sl 2 bp v]=I (bO qu (l.set i { x with dn:=v })):=mL (o:=1) cK.len hx (Es rfl) (by simp only[Gy,go_sem,Gl]) rfl
  cases o with
  |true=>exact⟨_,by rw[qj (show pr.bG 213=I iY from rfl) (by simp)];simp only[go_sem,seval,iY,h1,ld,w,hb]<;>rfl,EX cK hx (by decide) hy Ga⟩
  |false=>exact⟨_,by rw[qj (show pr.bG 213=I iY from rfl) (by simp)];simp only[go_sem,seval,iY,h1,ld,w,st]<;>rfl,zz⟩
def Ty (l:Option (List aC))(i:Int)(c:Int)(nm k:List UInt8):Option (Option (List aC)):=gj l i (HW c nm k)
theorem jfn {l i c nm k r}(h:Ty l i c nm k=I r):qc pr (X pr) 221 [sl 4 qu l,Iv i,.fn (.func 270) [] [.ai (.fn (.func 213) [] [.ai (Iv c),.ai (.fn (.func 211) [] [.ai (.str nm)]),.ai (.str k)])]]=I (sl 4 qu r,En):=by
 refine XV (fun n x y hx hy=>?_) h
 obtain⟨cs,h1,h2⟩:=zfl hx hy
 exact⟨cs,by rw[qj (show pr.bG 270=I nK from rfl) (by simp)];simp only[go_sem,seval,nK,h1]<;>rfl,h2⟩
def HX (t s:jb)(x:aC):Option aC:=qa (HD x.dt t s) fun v=>I { x with dt:=v.1 }
theorem zi5 {l:List aC}{i:Nat}{x y t s}(hx:l[i]?=I x)(h:HX t s x=I y):
  ∃cs,qm pr (X pr) 219 [.ptr 0 (i*4+1),.ai (q9 t),.ai (.fn (.func 217) [] [.ai (q9 s)])] [.cells (bO qu l)]=I (.aI [],En,[.cells cs])∧cs.map (·.1)=j8 qu (l.set i y):=by
 unfold HX at h
 have ld:zf (bO qu l) (i*4+1+1) 1=I [sl 3 q9 x.dt]:=vn (o:=2) cK.len hx (by decide)
 have hb:i*4+1+1<(bO qu l).length:=Ji cK (o:=2) hx (by decide)
 obtain⟨v,hv,h⟩:=qb h
 cases h
 have w:qc pr (X pr) 220 [sl 3 q9 x.dt,aT t,.fn (.func 217) [] [.ai (aT s)]]=I (sl 3 q9 v.1,v.2):=za6 hv
 rcases v with⟨v,o⟩
 have hy:(qu { x with dt:=v }).flat=(qu x).flat.set 2 (sl 3 q9 v):=rfl
 have st:jo (bO qu l) (i*4+1+1) [sl 3 q9 v]=I (bO qu (l.set i { x with dt:=v })):=mL (o:=2) cK.len hx (Es rfl) (by simp only[Gy,go_sem,Gl]) rfl
 cases o with
 |true=>exact⟨_,by rw[qj (show pr.bG 219=I nL from rfl) (by simp)];simp only[go_sem,seval,nL,q9,ld,w,hb]<;>rfl,EX cK (o:=2) hx (by decide) hy Ga⟩
 |false=>exact⟨_,by rw[qj (show pr.bG 219=I nL from rfl) (by simp)];simp only[go_sem,seval,nL,q9,ld,w,st]<;>rfl,zz⟩
def Tz (l:Option (List aC))(i:Int)(t s:jb):Option (Option (List aC)):=gj l i (HX t s)
theorem jfl {l i t s r}(h:Tz l i t s=I r):qc pr (X pr) 221 [sl 4 qu l,Iv i,.fn (.func 270) [] [.ai (.fn (.func 219) [] [.ai (q9 t),.ai (.fn (.func 217) [] [.ai (q9 s)])])]]=I (sl 4 qu r,En):=by
 refine XV (fun n x y hx hy=>?_) h
 obtain⟨cs,h1,h2⟩:=zi5 hx hy
 simp only[jb8]at h1
 exact⟨cs,by rw[qj (show pr.bG 270=I nK from rfl) (by simp)];simp only[go_sem,seval,nK,h1]<;>rfl,h2⟩
def L5 (x:aC):Option aC:=qa (f224 ⟨x.dn,x.dt⟩) fun d=>qa (LV x.aM d) fun v=>I { x with aM:=v }
theorem zf4 {l:List aC}{i:Nat}{x y}(hx:l[i]?=I x)(h:L5 x=I y):
  ∃cs,qm pr (X pr) 222 [.ptr 0 (i*4)] [.cells (bO qu l)]=I (.aI [],En,[.cells cs])∧cs.map (·.1)=j8 qu (l.set i y):=by
 unfold L5 at h
 have ld:zf (bO qu l) (i*4+3) 1=I [sl 2 yb x.aM]:=vn (o:=3) cK.len hx (by decide)
 have X2:zf (bO qu l) (i*4+1) 2=I [sl 2 bp x.dn,sl 3 q9 x.dt]:=vn (o:=1) cK.len hx (by decide)
 have hb:i*4+3<(bO qu l).length:=Ji cK (o:=3) hx (by decide)
 obtain⟨d,hd,h⟩:=qb h
 obtain⟨v,hv,h⟩:=qb h
 cases h
 have w:qc pr (X pr) 224 [.agg [sl 2 bp x.dn,sl 3 q9 x.dt]]=I (aD d,En):=zfs hd
 have w2:qc pr (X pr) 223 [sl 2 yb x.aM,aD d]=I (sl 2 yb v,Ga):=zht hv
 have hy:(qu { x with aM:=v }).flat=(qu x).flat.set 3 (sl 2 yb v):=rfl
 exact⟨_,by rw[qj (show pr.bG 222=I sQ from rfl) (by simp)];simp only[go_sem,seval,sQ,ld,X2,w,w2,hb]<;>rfl,EX cK (o:=3) hx (by decide) hy Ga⟩
def L4 (l:Option (List aC))(i:Int):Option (Option (List aC)):=gj l i L5
theorem jhp {l i r}(h:L4 l i=I r):qc pr (X pr) 221 [sl 4 qu l,Iv i,.fn (.func 222) [] []]=I (sl 4 qu r,En):=
 XV (fun n x y hx hy=>zf4 hx hy) h
def L6 (e:GEv)(x:bh):Option bh:=qa (qq (e.names.getD []) 1) fun n=>qa (qq (e.values.getD []) 1) fun b=>qa (LX x.results ⟨n,x.version,b⟩) fun v=>I { x with results:=v }
theorem ze5 {l:List bh}{i:Nat}{x y e}(hx:l[i]?=I x)(h:L6 e x=I y):
  ∃cs,qm pr (X pr) 235 [.ptr 0 (i*8),.ai (vev e)] [.cells (bO bI l)]=I (.aI [],En,[.cells cs])∧cs.map (·.1)=j8 bI (l.set i y):=by
 unfold L6 at h
 have ld:zf (bO bI l) (i*8+4) 1=I [sl 3 q9 x.results]:=vn (o:=4) en.len hx (by decide)
 have X2:zf (bO bI l) (i*8+2) 1=I [Iv x.version]:=vn (o:=2) en.len hx (by decide)
 have hb:i*8+4<(bO bI l).length:=Ji en (o:=4) hx (by decide)
 obtain⟨n,hn,h⟩:=qb h
 obtain⟨b,DH,h⟩:=qb h
 obtain⟨v,hv,h⟩:=qb h
 cases h
 have w:qc pr (X pr) 236 [sl 3 q9 x.results,.agg [.str n,Iv x.version,Iv b]]=I (sl 3 q9 v,Ga):=zhs hv
 have hy:(bI { x with results:=v }).flat=(bI x).flat.set 4 (sl 3 q9 v):=rfl
 exact⟨_,by rw[qj (show pr.bG 235=I sR from rfl) (by simp)];simp only[go_sem,seval,sR,vev,zh hn,zh DH,ld,X2,w,hb]<;>rfl,EX en (o:=4) hx (by decide) hy Ga⟩
def TG (l:Option (List bh))(i:Int)(e:GEv):Option (Option (List bh)):=gj l i (L6 e)
theorem jgi {l i e r}(h:TG l i e=I r):qc pr (X pr) 231 [sl 8 bI l,Iv i,.fn (.func 235) [] [.ai (vev e)]]=I (sl 8 bI r,En):=
 EW (fun n x y hx hy=>ze5 hx hy) h
def Eg (s:bn)(t:jc)(x:bh):Option bh:=qa (HE x.uses s t) fun v=>I { x with uses:=v.1 }
theorem jup {b0 b1 b2 de:bg}{l:List bh}{i x y s t}(hx:l[i]?=I x)(h:Eg s t x=I y):
  ∃cs,qm pr (X pr) 232 [.ptr 5 (i*8),.ptr 4 0,.ai (.fn (.func 229) [] [.ai (jd t)])] [b0,b1,b2,de,.cells [(.str s.k,En),(Iv s.n,En)],.cells (bO bI l)]=I (.aI [],En,[b0,b1,b2,de,.cells [(.str s.k,En),(Iv s.n,En)],.cells cs])∧cs.map (·.1)=j8 bI (l.set i y):=by
 unfold Eg at h
 have ld:zf (bO bI l) (i*8+3) 1=I [sl 2 bp x.uses]:=vn (o:=3) en.len hx (by decide)
 have hb:i*8+3<(bO bI l).length:=Ji en (o:=3) hx (by decide)
 obtain⟨v,hv,h⟩:=qb h
 cases h
 have w:qc pr (X pr) 233 [sl 2 bp x.uses,aN s,.fn (.func 229) [] [.ai (aL t)]]=I (sl 2 bp v.1,v.2):=zhx hv
 rcases v with⟨v,o⟩
 have hy:(bI { x with uses:=v }).flat=(bI x).flat.set 3 (sl 2 bp v):=rfl
 have st:jo (bO bI l) (i*8+3) [sl 2 bp v]=I (bO bI (l.set i { x with uses:=v })):=mL (o:=3) en.len hx (Es rfl) (by simp only[Gy,go_sem,Gl]) rfl
 cases o with
 |true=>exact⟨_,by rw[qj (show pr.bG 232=I nM from rfl) (by simp)];simp only[go_sem,seval,nM,jd,ld,w,hb]<;>rfl,EX en (o:=3) hx (by decide) hy Ga⟩
 |false=>exact⟨_,by rw[qj (show pr.bG 232=I nM from rfl) (by simp)];simp only[go_sem,seval,nM,jd,ld,w,st]<;>rfl,zz⟩
end Go.Z
namespace Go.Z
open Go Go.Abs Go.W
def Bk {α:Type}(l:Option (List α))(i:Int)(x:α):Option (Option (List α)):=
 if(l.getD []).length≤1073741824∧0≤i∧i<(l.getD []).length then I (I ((l.getD []).set i.toNat x))else Ge
theorem X3 {α:Type}{l:Option (List α)}{i x r}(h:Bk l i x=I r):∃(n:Nat),i=(n:Int)∧(l.getD []).length≤1073741824∧n<(l.getD []).length∧r=I ((l.getD []).set n x):=by
 unfold Bk at h
 split at h
 ·rename_i hc
  cases h
  exact⟨i.toNat,(Int.toNat_of_nonneg hc.2.1).symm,hc.1,by omega,rfl⟩
 ·cases h
section
variable {α:Type}{f:α→AVal}{sz:Nat}{h:qh}
theorem q98 {l}:cellsOf ((l.map f).flatMap AVal.flat)=bO f l:=rfl
theorem X4 (E:oY f sz){n0 r b t l}(hl:(l.getD []).length≤1073741824)(hb:b≤4096){h'}(hh:aS n0 h r (.cells (bO f (l.getD [])))=I h'):BM n0 r sz b h (I t) (I (.list En sz [])) (I (sl sz f l))=I ⟨.ms (n0+r) 0 (l.getD []).length,En,I t,h'⟩:=by
 have hs:zq sz (sl sz f l)=I ((l.getD []).map f):=SL
 have h1:0<sz:=by have:=E.big;omega
 simp only[BM]
 rw[hs]
 simp only[Option.isSome_some,Gm,Gl,cond_true,Gn,Gi hl,Gi hb,Gz.mpr h1,q98,hh]
theorem X5 (E:oY f sz){l i y}(hi:i<l.length):jo (bO f l) (i*sz) (f y).flat=I (bO f (l.set i y)):=by
 have hx:l[i]?=I l[i]:=List.getElem?_eq_getElem hi
 have hl:=E.len l[i]
 have hly:=E.len y
 have:=mL (o:=0) (us:=(f y).flat) (y:=y) E.len hx (by omega) (E.sc y) (by rw[G3,Gx,Gp (by omega),G2])
 rw[Nat.add_zero]at this
 exact this
end
def yW (a0:ar)(a1:Int)(x:jc):Option ar:=qa (Bk a0.au a1 x) fun v=>I { a0 with au:=v }
theorem jud {a0:ar}{a1:Int}{x r}(h:yW a0 a1 x=I r):qc pr (X pr) 262 [aR a0,Iv a1,aL x]=I (aR r,En):=by
 obtain⟨v,hv,h⟩:=qb h
 cases h
 obtain⟨n,rfl,hl,hi,rfl⟩:=X3 hv
 have ap:BM 2 0 5 56 [kR a0.day a0.au a0.ae a0.units,kZ,.hole] (I 7) (I (.list En 5 [])) (I (sl 5 jd a0.au))=I ⟨.ms 2 0 (a0.au.getD []).length,En,I 7,[kR a0.day a0.au a0.ae a0.units,kZ,.cells (bO jd (a0.au.getD []))]⟩:=by apply X4 gk<;>first|exact hl|rfl|decide
 have st:jo (bO jd (a0.au.getD [])) (n*5) [.str x.name,.str x.kind,Iv x.count,Iv x.left,.bool x.held]=I (bO jd ((a0.au.getD []).set n x)):=X5 (y:=x) gk hi
 have this:qm pr (X pr) 262 [aR a0,Iv (n:Int),aL x] []=I (.agg [Iv a0.day,.ms 2 0 (a0.au.getD []).length,sl 4 qu a0.ae,sl 8 bI a0.units],En,[.cells [(Iv a0.day,En),(.ms 2 0 (a0.au.getD []).length,En),(sl 4 qu a0.ae,En),(sl 8 bI a0.units,En)],.cells [(Iv a0.day,En),(.ms 2 0 (a0.au.getD []).length,En),(sl 4 qu a0.ae,En),(sl 8 bI a0.units,En)],.cells (bO jd ((a0.au.getD []).set n x))]):=by
  rw[qj (show pr.bG 262=I sS from rfl) (by simp)]
  simp only[go_sem,seval,sS,ap,vK hi,st]<;>rfl
 have fz:kq [.cells [(Iv a0.day,En),(.ms 2 0 (a0.au.getD []).length,En),(sl 4 qu a0.ae,En),(sl 8 bI a0.units,En)],.cells [(Iv a0.day,En),(.ms 2 0 (a0.au.getD []).length,En),(sl 4 qu a0.ae,En),(sl 8 bI a0.units,En)],.cells (bO jd ((a0.au.getD []).set n x))] (.ms 2 0 (a0.au.getD []).length)=I (sl 5 jd (I ((a0.au.getD []).set n x))):=by
  have:=vJ gk (l:=(a0.au.getD []).set n x) (by rw[Gf];omega) (cs:=bO jd ((a0.au.getD []).set n x)) zz
  rw[Gf]at this
  exact this
 refine zx rfl this (v':=.agg [Iv a0.day,sl 5 jd (I ((a0.au.getD []).set n x)),sl 4 qu a0.ae,sl 8 bI a0.units]) ?_ (by first|rfl|simp only[go_sem,seval])
 rw[SV]
 simp only[go_sem,seval,fz]<;>rfl
def yX (a0:ar)(a1:Int)(x:aC):Option ar:=qa (Bk a0.ae a1 x) fun v=>I { a0 with ae:=v }
theorem zhr {a0:ar}{a1:Int}{x r}(h:yX a0 a1 x=I r):qc pr (X pr) 261 [aR a0,Iv a1,aP x]=I (aR r,En):=by
 obtain⟨v,hv,h⟩:=qb h
 cases h
 obtain⟨n,rfl,hl,hi,rfl⟩:=X3 hv
 have ap:BM 2 0 4 88 [kR a0.day a0.au a0.ae a0.units,kZ,.hole] (I 7) (I (.list En 4 [])) (I (sl 4 qu a0.ae))=I ⟨.ms 2 0 (a0.ae.getD []).length,En,I 7,[kR a0.day a0.au a0.ae a0.units,kZ,.cells (bO qu (a0.ae.getD []))]⟩:=by apply X4 cK<;>first|exact hl|rfl|decide
 have st:jo (bO qu (a0.ae.getD [])) (n*4) [.str x.name,sl 2 bp x.dn,sl 3 q9 x.dt,sl 2 yb x.aM]=I (bO qu ((a0.ae.getD []).set n x)):=X5 (y:=x) cK hi
 have this:qm pr (X pr) 261 [aR a0,Iv (n:Int),aP x] []=I (.agg [Iv a0.day,sl 5 jd a0.au,.ms 2 0 (a0.ae.getD []).length,sl 8 bI a0.units],En,[.cells [(Iv a0.day,En),(sl 5 jd a0.au,En),(.ms 2 0 (a0.ae.getD []).length,En),(sl 8 bI a0.units,En)],.cells [(Iv a0.day,En),(sl 5 jd a0.au,En),(.ms 2 0 (a0.ae.getD []).length,En),(sl 8 bI a0.units,En)],.cells (bO qu ((a0.ae.getD []).set n x))]):=by
  rw[qj (show pr.bG 261=I sT from rfl) (by simp)]
  simp only[go_sem,seval,sT,ap,vK hi,st]<;>rfl
 have fz:kq [.cells [(Iv a0.day,En),(sl 5 jd a0.au,En),(.ms 2 0 (a0.ae.getD []).length,En),(sl 8 bI a0.units,En)],.cells [(Iv a0.day,En),(sl 5 jd a0.au,En),(.ms 2 0 (a0.ae.getD []).length,En),(sl 8 bI a0.units,En)],.cells (bO qu ((a0.ae.getD []).set n x))] (.ms 2 0 (a0.ae.getD []).length)=I (sl 4 qu (I ((a0.ae.getD []).set n x))):=by
  have:=vJ cK (l:=(a0.ae.getD []).set n x) (by rw[Gf];omega) (cs:=bO qu ((a0.ae.getD []).set n x)) zz
  rw[Gf]at this
  exact this
 refine zx rfl this (v':=.agg [Iv a0.day,sl 5 jd a0.au,sl 4 qu (I ((a0.ae.getD []).set n x)),sl 8 bI a0.units]) ?_ (by first|rfl|simp only[go_sem,seval])
 rw[SV]
 simp only[go_sem,seval,fz]<;>rfl
def f267 (a0:ar)(a1:Int)(x:bh):Option ar:=qa (Bk a0.units a1 x) fun v=>I { a0 with units:=v }
theorem X6 {a0:ar}{a1:Int}{x r}(h:f267 a0 a1 x=I r):qc pr (X pr) 267 [aR a0,Iv a1,aU x]=I (aR r,En):=by
 obtain⟨v,hv,h⟩:=qb h
 cases h
 obtain⟨n,rfl,hl,hi,rfl⟩:=X3 hv
 have ap:BM 2 0 8 120 [kR a0.day a0.au a0.ae a0.units,kZ,.hole] (I 7) (I (.list En 8 [])) (I (sl 8 bI a0.units))=I ⟨.ms 2 0 (a0.units.getD []).length,En,I 7,[kR a0.day a0.au a0.ae a0.units,kZ,.cells (bO bI (a0.units.getD []))]⟩:=by apply X4 en<;>first|exact hl|rfl|decide
 have st:jo (bO bI (a0.units.getD [])) (n*8) [.str x.name,.str x.product,Iv x.version,sl 2 bp x.uses,sl 3 q9 x.results,.str x.partner,.bool x.aq,Iv x.ah]=I (bO bI ((a0.units.getD []).set n x)):=X5 (y:=x) en hi
 have this:qm pr (X pr) 267 [aR a0,Iv (n:Int),aU x] []=I (.agg [Iv a0.day,sl 5 jd a0.au,sl 4 qu a0.ae,.ms 2 0 (a0.units.getD []).length],En,[.cells [(Iv a0.day,En),(sl 5 jd a0.au,En),(sl 4 qu a0.ae,En),(.ms 2 0 (a0.units.getD []).length,En)],.cells [(Iv a0.day,En),(sl 5 jd a0.au,En),(sl 4 qu a0.ae,En),(.ms 2 0 (a0.units.getD []).length,En)],.cells (bO bI ((a0.units.getD []).set n x))]):=by
  rw[qj (show pr.bG 267=I sU from rfl) (by simp)]
  simp only[go_sem,seval,sU,ap,vK hi,st]<;>rfl
 have fz:kq [.cells [(Iv a0.day,En),(sl 5 jd a0.au,En),(sl 4 qu a0.ae,En),(.ms 2 0 (a0.units.getD []).length,En)],.cells [(Iv a0.day,En),(sl 5 jd a0.au,En),(sl 4 qu a0.ae,En),(.ms 2 0 (a0.units.getD []).length,En)],.cells (bO bI ((a0.units.getD []).set n x))] (.ms 2 0 (a0.units.getD []).length)=I (sl 8 bI (I ((a0.units.getD []).set n x))):=by
  have:=vJ en (l:=(a0.units.getD []).set n x) (by rw[Gf];omega) (cs:=bO bI ((a0.units.getD []).set n x)) zz
  rw[Gf]at this
  exact this
 refine zx rfl this (v':=.agg [Iv a0.day,sl 5 jd a0.au,sl 4 qu a0.ae,sl 8 bI (I ((a0.units.getD []).set n x))]) ?_ (by first|rfl|simp only[go_sem,seval])
 rw[SV]
 simp only[go_sem,seval,fz]<;>rfl
end Go.Z
namespace Go.Z
open Go Go.Abs Go.W
def Bl (a0:Option (List bn))(a1:bn)(s0:(Option (List bn))×Bool×Int×Bool):Option (((Option (List bn))×Bool×Int×Bool)⊕(((Option (List bn))×Bool×Bool×Int))):=
 cond (decide (s0.2.2.1<((a0.getD []).length:Int)))
  (qa (qq (a0.getD []) s0.2.2.1) fun v24=>
  cond (decide (v24.k=a1.k))
   (cond (decide (0<a1.n))
    (cond s0.2.2.2
     (qa (bq s0.1 [a1]) fun hO=>
     I (.inl (hO,Ga,qe .i64 (s0.2.2.1+1),Ga)))
     (cond s0.1.isNone
      (qa (bq s0.1 [a1]) fun lF=>
      I (.inl (lF,Ga,qe .i64 (s0.2.2.1+1),Ga)))
      (Ge)))
    (I (.inl (s0.1,Ga,qe .i64 (s0.2.2.1+1),s0.2.2.2))))
   (cond s0.2.2.2
    (qa (bq s0.1 [v24]) fun wU=>
    I (.inl (wU,s0.2.1,qe .i64 (s0.2.2.1+1),Ga)))
    (cond s0.1.isNone
     (qa (bq s0.1 [v24]) fun oX=>
     I (.inl (oX,s0.2.1,qe .i64 (s0.2.2.1+1),Ga)))
     (Ge))))
  (I (.inr (s0.1,s0.2.2.2,s0.2.1,s0.2.2.1)))
def Na (a0:Option (List bn))(a1:bn)(s0:(Option (List bn))×Bool×Int×Bool):bf:=⟨[(0,sl 2 bp a0,En),(3,.ai (aN a1),En),(5,sl 2 bp s0.1,s0.2.2.2),(6,.bool s0.2.1,En),(7,Iv s0.2.2.1,En)],[]⟩
def Nb (a0:Option (List bn))(a1:bn)(d:((Option (List bn))×Bool×Bool×Int)):je×bf:=(.exit 0,⟨[(0,sl 2 bp a0,En),(3,.ai (aN a1),En),(5,sl 2 bp d.1,d.2.1),(6,.bool d.2.2.1,En),(7,Iv d.2.2.2,En),(11,.bool En,En)],[]⟩)
theorem jst (a0:Option (List bn))(a1:bn)(s0:(Option (List bn))×Bool×Int×Bool)(r)(h:Bl a0 a1 s0=I r):jw pr Nc (Na a0 a1) (Nb a0 a1) s0 r:=by
 unfold Bl at h
 repeat' first|(replace h:=qb h;obtain⟨d,g,h⟩:=h;with_reducible first|replace g:=wz g|skip)|(replace h:=qd h;rcases h with⟨g,h⟩|⟨g,h⟩)
 all_goals (cases h<;>((first|refine qx ?_|refine jq ?_);simp only[go_sem,seval,Nc,Na,jg,Nb, *]<;>rfl))
theorem jwi (a0:Option (List bn))(a1:bn){s0 d}(h:bB (Bl a0 a1) s0=I d):X pr (.loop Nc) (Na a0 a1 s0)=I (Nb a0 a1 d):=ze (jst a0 a1) h
def HQ (a0:Option (List bn))(a1:bn):Option ((Option (List bn))×Bool):=
 qa (bB (Bl a0 a1) (Ge,En,0,En)) fun d40=>
 cond d40.2.2.1
  (I (d40.1,d40.2.1))
  (cond (decide (0<a1.n))
   (cond d40.2.1
    (qa (bq d40.1 [a1]) fun zP=>
    I (zP,Ga))
    (cond d40.1.isNone
     (qa (bq d40.1 [a1]) fun Jj=>
     I (Jj,Ga))
     (Ge)))
   (I (d40.1,d40.2.1)))
theorem zca {a0 a1 r}(h:HQ a0 a1=I r):qc pr (X pr) 259 [sl 2 bp a0,aN a1]=I (sl 2 bp r.1,r.2):=by
 unfold HQ at h
 refine kr wV ?_
 repeat' first|(replace h:=qb h;obtain⟨d,g,h⟩:=h;with_reducible first|replace g:=wz g|(replace g:=jwi a0 a1 g;dsimp only[Na,Nb,zg]at g h)|skip)|(replace h:=qd h;rcases h with⟨g,h⟩|⟨g,h⟩)
 all_goals (cases h<;>(simp only[go_sem,seval,wV, *];exact⟨_,rfl⟩))
def Bm (a0:Option (List jb))(a1:jb)(s0:(Option (List jb))×Bool×Int×Bool):Option (((Option (List jb))×Bool×Int×Bool)⊕(((Option (List jb))×Bool×Bool×Int))):=
 cond (decide (s0.2.2.1<((a0.getD []).length:Int)))
  (qa (qq (a0.getD []) s0.2.2.1) fun v22=>
  cond (decide (v22.k=a1.k))
   (cond s0.2.2.2
    (qa (bq s0.1 [a1]) fun v26=>
    I (.inl (v26,Ga,qe .i64 (s0.2.2.1+1),Ga)))
    (cond s0.1.isNone
     (qa (bq s0.1 [a1]) fun hO=>
     I (.inl (hO,Ga,qe .i64 (s0.2.2.1+1),Ga)))
     (Ge)))
   (cond s0.2.2.2
    (qa (bq s0.1 [v22]) fun lF=>
    I (.inl (lF,s0.2.1,qe .i64 (s0.2.2.1+1),Ga)))
    (cond s0.1.isNone
     (qa (bq s0.1 [v22]) fun wU=>
     I (.inl (wU,s0.2.1,qe .i64 (s0.2.2.1+1),Ga)))
     (Ge))))
  (I (.inr (s0.1,s0.2.2.2,s0.2.1,s0.2.2.1)))
def Nd (a0:Option (List jb))(a1:jb)(s0:(Option (List jb))×Bool×Int×Bool):bf:=⟨[(0,sl 3 q9 a0,En),(3,.ai (aT a1),En),(5,sl 3 q9 s0.1,s0.2.2.2),(6,.bool s0.2.1,En),(7,Iv s0.2.2.1,En)],[]⟩
def Nf (a0:Option (List jb))(a1:jb)(d:((Option (List jb))×Bool×Bool×Int)):je×bf:=(.exit 0,⟨[(0,sl 3 q9 a0,En),(3,.ai (aT a1),En),(5,sl 3 q9 d.1,d.2.1),(6,.bool d.2.2.1,En),(7,Iv d.2.2.2,En),(11,.bool En,En)],[]⟩)
theorem jt2 (a0:Option (List jb))(a1:jb)(s0:(Option (List jb))×Bool×Int×Bool)(r)(h:Bm a0 a1 s0=I r):jw pr Ng (Nd a0 a1) (Nf a0 a1) s0 r:=by
 unfold Bm at h
 repeat' first|(replace h:=qb h;obtain⟨d,g,h⟩:=h;with_reducible first|replace g:=yG g|skip)|(replace h:=qd h;rcases h with⟨g,h⟩|⟨g,h⟩)
 all_goals (cases h<;>((first|refine qx ?_|refine jq ?_);simp only[go_sem,seval,Ng,Nd,jg,Nf, *]<;>rfl))
theorem jrs (a0:Option (List jb))(a1:jb){s0 d}(h:bB (Bm a0 a1) s0=I d):X pr (.loop Ng) (Nd a0 a1 s0)=I (Nf a0 a1 d):=ze (jt2 a0 a1) h
def f260 (a0:Option (List jb))(a1:jb):Option ((Option (List jb))×Bool):=
 qa (bB (Bm a0 a1) (Ge,En,0,En)) fun d37=>
 cond d37.2.2.1
  (I (d37.1,d37.2.1))
  (cond d37.2.1
   (qa (bq d37.1 [a1]) fun wW=>
   I (wW,Ga))
   (cond d37.1.isNone
    (qa (bq d37.1 [a1]) fun nG=>
    I (nG,Ga))
    (Ge)))
theorem zcu {a0 a1 r}(h:f260 a0 a1=I r):qc pr (X pr) 260 [sl 3 q9 a0,aT a1]=I (sl 3 q9 r.1,r.2):=by
 unfold f260 at h
 refine kr wX ?_
 repeat' first|(replace h:=qb h;obtain⟨d,g,h⟩:=h;with_reducible first|replace g:=yG g|(replace g:=jrs a0 a1 g;dsimp only[Nd,Nf,zg]at g h)|skip)|(replace h:=qd h;rcases h with⟨g,h⟩|⟨g,h⟩)
 all_goals (cases h<;>(simp only[go_sem,seval,wX, *];exact⟨_,rfl⟩))
def Bn (a0:Option (List bn))(a1:List UInt8)(a2:Int)(s0:(Option (List bn))×Bool×Int×Bool):Option (((Option (List bn))×Bool×Int×Bool)⊕(((Option (List bn))×Bool×Bool×Int))):=
 cond (decide (s0.2.2.1<((a0.getD []).length:Int)))
  (qa (qq (a0.getD []) s0.2.2.1) fun v22=>
  cond (decide (v22.k=a1))
   (cond s0.2.2.2
    (qa (bq s0.1 [⟨v22.k,qe .i64 (v22.n+a2)⟩]) fun v26=>
    I (.inl (v26,Ga,qe .i64 (s0.2.2.1+1),Ga)))
    (cond s0.1.isNone
     (qa (bq s0.1 [⟨v22.k,qe .i64 (v22.n+a2)⟩]) fun hO=>
     I (.inl (hO,Ga,qe .i64 (s0.2.2.1+1),Ga)))
     (Ge)))
   (cond s0.2.2.2
    (qa (bq s0.1 [v22]) fun lF=>
    I (.inl (lF,s0.2.1,qe .i64 (s0.2.2.1+1),Ga)))
    (cond s0.1.isNone
     (qa (bq s0.1 [v22]) fun wU=>
     I (.inl (wU,s0.2.1,qe .i64 (s0.2.2.1+1),Ga)))
     (Ge))))
  (I (.inr (s0.1,s0.2.2.2,s0.2.1,s0.2.2.1)))
def B8 (a0:Option (List bn))(a1:List UInt8)(a2:Int)(s0:(Option (List bn))×Bool×Int×Bool):bf:=⟨[(0,sl 2 bp a0,En),(1,.str a1,En),(2,Iv a2,En),(7,sl 2 bp s0.1,s0.2.2.2),(8,.bool s0.2.1,En),(9,Iv s0.2.2.1,En)],[]⟩
def Jk (a0:Option (List bn))(a1:List UInt8)(a2:Int)(d:((Option (List bn))×Bool×Bool×Int)):je×bf:=(.exit 0,⟨[(0,sl 2 bp a0,En),(1,.str a1,En),(2,Iv a2,En),(7,sl 2 bp d.1,d.2.1),(8,.bool d.2.2.1,En),(9,Iv d.2.2.2,En),(14,.bool En,En)],[]⟩)
theorem jxj (a0:Option (List bn))(a1:List UInt8)(a2:Int)(s0:(Option (List bn))×Bool×Int×Bool)(r)(h:Bn a0 a1 a2 s0=I r):jw pr Jl (B8 a0 a1 a2) (Jk a0 a1 a2) s0 r:=by
 unfold Bn at h
 repeat' first|(replace h:=qb h;obtain⟨d,g,h⟩:=h;with_reducible first|replace g:=wz g|skip)|(replace h:=qd h;rcases h with⟨g,h⟩|⟨g,h⟩)
 all_goals (cases h<;>(first|(refine qx ?_;simp only[go_sem,seval,Jl,B8,jg,Jk, *]<;>rfl)|(refine q7u ?_ rfl (by first|simp only[go_sem,seval,B8]|rfl) (by first|simp only[go_sem,seval,B8]|rfl);simp only[go_sem,seval,Jl,B8,jg,Jk, *];exact⟨_,rfl⟩)))
theorem jve (a0:Option (List bn))(a1:List UInt8)(a2:Int){s0 d}(h:bB (Bn a0 a1 a2) s0=I d):X pr (.loop Jl) (B8 a0 a1 a2 s0)=I (Jk a0 a1 a2 d):=ze (jxj a0 a1 a2) h
def HR (a0:Option (List bn))(a1:List UInt8)(a2:Int):Option ((Option (List bn))×Bool):=
 qa (bB (Bn a0 a1 a2) (Ge,En,0,En)) fun d37=>
 cond d37.2.2.1
  (I (d37.1,d37.2.1))
  (cond d37.2.1
   (qa (bq d37.1 [⟨a1,a2⟩]) fun wW=>
   I (wW,Ga))
   (cond d37.1.isNone
    (qa (bq d37.1 [⟨a1,a2⟩]) fun nG=>
    I (nG,Ga))
    (Ge)))
theorem zbf {a0 a1 a2 r}(h:HR a0 a1 a2=I r):qc pr (X pr) 298 [sl 2 bp a0,.str a1,Iv a2]=I (sl 2 bp r.1,r.2):=by
 unfold HR at h
 refine kr wY ?_
 repeat' first|(replace h:=qb h;obtain⟨d,g,h⟩:=h;with_reducible first|replace g:=wz g|(replace g:=jve a0 a1 a2 g;dsimp only[B8,Jk,zg]at g h)|skip)|(replace h:=qd h;rcases h with⟨g,h⟩|⟨g,h⟩)
 all_goals (cases h<;>(simp only[go_sem,seval,wY, *];exact⟨_,rfl⟩))
def rM (a0:ar)(a1:GEv):Option (ar×Int):=
 qa (qq (a1.names.getD []) 0) fun v1=>
 cond (decide (a1.kind=([108,111,116]:List UInt8)))
  (qa (wC a0 v1) fun v4=>
  cond (decide (0≤v4))
   (I (a0,9))
   (qa (qq (a1.values.getD []) 1) fun v7=>
   qa (f88 v7 1 10000) fun v9=>
   cond v9
    (I (a0,3))
    (cond (decide (64≤((a0.au.getD []).length:Int)))
     (I (a0,5))
     (qa (bq (I []) (a0.au.getD [])) fun ec=>
     qa (qq (a1.names.getD []) 1) fun fk=>
     qa (bq ec [⟨v1,fk,v7,v7,En⟩]) fun eN=>
     I (⟨a0.day,eN,a0.ae,a0.units⟩,0)))))
  (cond (decide (a1.kind=([112,114,111,100,117,99,116]:List UInt8)))
   (qa (wD a0 v1) fun v20=>
   cond (decide (0≤v20))
    (I (a0,9))
    (cond (decide (16≤((a0.ae.getD []).length:Int)))
     (I (a0,5))
     (qa (bq (I []) (a0.ae.getD [])) fun v24=>
     qa (bq v24 [⟨v1,Ge,Ge,Ge⟩]) fun v26=>
     I (⟨a0.day,a0.au,v26,a0.units⟩,0))))
   (qa (qq (a1.names.getD []) 1) fun v28=>
   qa (wD a0 v28) fun v30=>
   cond (decide (v30<0))
    (I (a0,10))
    (qa (Ba a0 v1) fun wZ=>
    cond (decide (0≤wZ))
     (I (a0,9))
     (qa (qq (a0.ae.getD []) v30) fun vI=>
     cond (decide (((vI.aM.getD []).length:Int)=0))
      (I (a0,32))
      (cond (decide (256≤((a0.units.getD []).length:Int)))
       (I (a0,5))
       (qa (bq (I []) (a0.units.getD [])) fun v40=>
       qa (bq v40 [⟨v1,v28,((vI.aM.getD []).length:Int),Ge,Ge,[],En,0⟩]) fun B2=>
       I (⟨a0.day,a0.au,a0.ae,B2⟩,0)))))))
theorem zgk {a0 a1 r}(h:rM a0 a1=I r):qc pr (X pr) 199 [aR a0,aE a1]=I (.aI [aR r.1,Iv r.2],En):=by
 unfold rM at h
 refine zd xa ?_
 repeat' first|(replace h:=qb h;obtain⟨d,g,h⟩:=h; (with_reducible first|replace g:=Jm g|replace g:=X7 g|replace g:=Nh g|replace g:=X8 g|replace g:=LD g|replace g:=S9 g|replace g:=Ta g|skip);try dsimp only[zg,l3,Gj,zy,yf,jd,qu,bI,jf,vev,bp,q9,yb,aE,aR,aU,aL,aP,aD]at g)|(replace h:=qd h;rcases h with⟨g,h⟩|⟨g,h⟩)
 all_goals (cases h<;>(simp only[go_sem,seval,xa,jg,kc, *];exact⟨_,rfl⟩))
end Go.Z
namespace Go.Z
open Go Go.Abs Go.W
def Bo (a1:List UInt8)(dP:Int)(dF:List UInt8)(xb:List UInt8)(aX:Int)(aV:Option (List jc))(aQ:Option (List aC))(aF:Option (List bh)):Option (Option (List aC)):=
 qa (oq (⟨aX,aV,aQ,aF⟩) a1) fun v1=>
 qa (Ty aQ v1 dP dF xb) fun v3=>
 I v3
theorem j15 {a1 dP dF xb aX aV aQ aF x1 x2 x3 r}(h:Bo a1 dP dF xb aX aV aQ aF=I r):qm pr (X pr) 212 [.ptr 0 0,.str a1,.fn (.func 213) [] [.ai (Iv dP),.ai (.fn (.func 211) [] [.ai (.str dF)]),.ai (.str xb)]] [kR aX aV aQ aF,x1,x2,x3]=I (.aI [],En,[kR aX aV r aF,x1,x2,x3]):=by
 unfold Bo at h
 rw[qj (show pr.bG 212=I nO from rfl) (by simp)]
 repeat' first|(replace h:=qb h;obtain⟨d,g,h⟩:=h;with_reducible first|replace g:=vL g|replace g:=jfn g|skip)|(replace h:=qd h;rcases h with⟨g,h⟩|⟨g,h⟩)
 all_goals (cases h<;>(simp only[go_sem,seval,nO, *]<;>rfl))
def Ed (a1:List UInt8)(dP:jb)(dF:jb)(aX:Int)(aV:Option (List jc))(aQ:Option (List aC))(aF:Option (List bh)):Option (Option (List aC)):=
 qa (oq (⟨aX,aV,aQ,aF⟩) a1) fun v1=>
 qa (Tz aQ v1 dP dF) fun v3=>
 I v3
theorem j73 {a1 dP dF aX aV aQ aF x1 x2 x3 r}(h:Ed a1 dP dF aX aV aQ aF=I r):qm pr (X pr) 212 [.ptr 0 0,.str a1,.fn (.func 219) [] [.ai (aT dP),.ai (.fn (.func 217) [] [.ai (aT dF)])]] [kR aX aV aQ aF,x1,x2,x3]=I (.aI [],En,[kR aX aV r aF,x1,x2,x3]):=by
 unfold Ed at h
 obtain⟨v1,h2,h⟩:=qb h
 have sG:qc pr (X pr) 161 [aG aX aV aQ aF,.str a1]=I (Iv v1,En):=vL h2
 obtain⟨v3,h4,h⟩:=qb h
 have B9:qc pr (X pr) 221 [sl 4 qu aQ,Iv v1,.fn (.func 270) [] [.ai (.fn (.func 219) [] [.ai (aT dP),.ai (.fn (.func 217) [] [.ai (aT dF)])])]]=I (sl 4 qu v3,En):=jfl h4
 have hr:v3=r:=I.inj h
 subst hr
 rw[qj (show pr.bG 212=I nO from rfl) (by simp)]
 simp only[go_sem,seval,nO,sG,B9]<;>rfl
def HT (a1:GEv)(aX:Int)(aV:Option (List jc))(aQ:Option (List aC))(aF:Option (List bh)):Option (Int×(Option (List jc))×Bool):=
 qa (qq (a1.names.getD []) 0) fun v1=>
 qa (f64 (⟨aX,aV,aQ,aF⟩) v1) fun v3=>
 qa (f48 (decide (0≤v3)) 9) fun v5=>
 qa (qq (a1.values.getD []) 1) fun v7=>
 qa (f60 v7 1 10000) fun v9=>
 qa (f48 (decide (64≤((aV.getD []).length:Int))) 5) fun v11=>
 qa (f46 (I [v5,v9,v11])) fun ec=>
 cond (decide (ec=0))
  (qa (qq (a1.names.getD []) 1) fun dU=>
  qa (LS aV (⟨v1,dU,v7,v7,En⟩)) fun gQ=>
  I (0,gQ,Ga))
  (I (ec,aV,En))
theorem zi0 {a1 aX aV aQ aF x1 x2 x3 r}(h:HT a1 aX aV aQ aF=I r):qm pr (X pr) 168 [.ptr 0 0,aE a1] [kR aX aV aQ aF,x1,x2,x3]=I (Iv r.1,En,[kS aX r.2.1 r.2.2 aQ En aF En,x1,x2,x3]):=by
 unfold HT at h
 rw[qj (show pr.bG 168=I sV from rfl) (by simp)]
 repeat' first|(replace h:=qb h;obtain⟨d,g,h⟩:=h; (with_reducible first|replace g:=EY g|replace g:=eO g|replace g:=Ni g|replace g:=iZ g|replace g:=zco g|skip);try dsimp only[zg,l3,Gj,zy,yf,jd,qu,bI,jf,vev,bp,q9,yb,aE,aR,aU,aL,aP,aD]at g)|(replace h:=qd h;rcases h with⟨g,h⟩|⟨g,h⟩)
 all_goals (cases h<;>(simp only[go_sem,seval,sV,jg, *]<;>rfl))
def f169 (a1:GEv)(aX:Int)(aV:Option (List jc))(aQ:Option (List aC))(aF:Option (List bh)):Option (Int×(Option (List aC))×Bool):=
 qa (qq (a1.names.getD []) 0) fun v1=>
 qa (oq (⟨aX,aV,aQ,aF⟩) v1) fun v3=>
 qa (f48 (decide (0≤v3)) 9) fun v5=>
 qa (f48 (decide (16≤((aQ.getD []).length:Int))) 5) fun v7=>
 qa (f46 (I [v5,v7])) fun v9=>
 cond (decide (v9=0))
  (qa (LU aQ (⟨v1,Ge,Ge,Ge⟩)) fun v12=>
  I (0,v12,Ga))
  (I (v9,aQ,En))
theorem zbq {a1 aX aV aQ aF x1 x2 x3 r}(h:f169 a1 aX aV aQ aF=I r):qm pr (X pr) 169 [.ptr 0 0,aE a1] [kR aX aV aQ aF,x1,x2,x3]=I (Iv r.1,En,[kS aX aV En r.2.1 r.2.2 aF En,x1,x2,x3]):=by
 unfold f169 at h
 rw[qj (show pr.bG 169=I sW from rfl) (by simp)]
 repeat' first|(replace h:=qb h;obtain⟨d,g,h⟩:=h; (with_reducible first|replace g:=vL g|replace g:=eO g|replace g:=iZ g|replace g:=zfg g|skip);try dsimp only[zg,l3,Gj,zy,yf,jd,qu,bI,jf,vev,bp,q9,yb,aE,aR,aU,aL,aP,aD]at g)|(replace h:=qd h;rcases h with⟨g,h⟩|⟨g,h⟩)
 all_goals (cases h<;>(simp only[go_sem,seval,sW,jg, *]<;>rfl))
def f170 (a1:GEv)(aX:Int)(aV:Option (List jc))(aQ:Option (List aC))(aF:Option (List bh)):Option (Int×(Option (List aC))):=
 qa (qq (a1.names.getD []) 1) fun v1=>
 qa (qq (a1.values.getD []) 1) fun v3=>
 qa (qq (a1.names.getD []) 0) fun v5=>
 qa (oq (⟨aX,aV,aQ,aF⟩) v5) fun v7=>
 qa (qq (aQ.getD []) v7) fun v9=>
 qa (f60 v3 0 10000) fun v11=>
 cond (decide (0<v3))
  (qa (HI v9.dn v1) fun ei=>
  cond ei
   (qa (f48 En 5) fun eN=>
   qa (f46 (I [v11,eN])) fun iW=>
   cond (decide (iW=0))
    (qa (Bo v5 v3 v1 v1 aX aV aQ aF) fun v22=>
    I (0,v22))
    (I (iW,aQ)))
   (qa (f48 (decide (16≤((v9.dn.getD []).length:Int))) 5) fun v24=>
   qa (f46 (I [v11,v24])) fun v26=>
   cond (decide (v26=0))
    (qa (Bo v5 v3 v1 v1 aX aV aQ aF) fun hO=>
    I (0,hO))
    (I (v26,aQ))))
  (qa (f48 En 5) fun v31=>
  qa (f46 (I [v11,v31])) fun wZ=>
  cond (decide (wZ=0))
   (qa (Bo v5 v3 v1 v1 aX aV aQ aF) fun vI=>
   I (0,vI))
   (I (wZ,aQ)))
theorem zhh {a1 aX aV aQ aF x1 x2 x3 r}(h:f170 a1 aX aV aQ aF=I r):qm pr (X pr) 170 [.ptr 0 0,aE a1] [kR aX aV aQ aF,x1,x2,x3]=I (Iv r.1,En,[kR aX aV r.2 aF,x1,x2,x3]):=by
 unfold f170 at h
 rw[qj (show pr.bG 170=I sX from rfl) (by simp)]
 repeat' first|(replace h:=qb h;obtain⟨d,g,h⟩:=h; (with_reducible first|replace g:=vL g|replace g:=Ni g|replace g:=jz8 g|replace g:=eO g|replace g:=iZ g|replace g:=j15 (x1:=x1) (x2:=x2) (x3:=x3) g|skip);try dsimp only[zg,l3,Gj,zy,yf,jd,qu,bI,jf,vev,bp,q9,yb,aE,aR,aU,aL,aP,aD]at g)|(replace h:=qd h;rcases h with⟨g,h⟩|⟨g,h⟩)
 all_goals (cases h<;>(simp only[go_sem,seval,sX,jg, *]<;>rfl))
def f171 (a1:GEv)(aX:Int)(aV:Option (List jc))(aQ:Option (List aC))(aF:Option (List bh)):Option (Int×(Option (List aC))):=
 qa (qq (a1.names.getD []) 1) fun v1=>
 qa (qq (a1.values.getD []) 1) fun v3=>
 qa (qq (a1.values.getD []) 2) fun v5=>
 qa (qq (a1.names.getD []) 0) fun v7=>
 qa (oq (⟨aX,aV,aQ,aF⟩) v7) fun v9=>
 qa (qq (aQ.getD []) v9) fun v11=>
 qa (f48 (decide (v5<v3)) 11) fun ec=>
 qa (HM v11.dt (⟨v1,v3,v5⟩)) fun fk=>
 cond fk
  (qa (f48 En 5) fun gQ=>
  qa (f46 (I [ec,gQ])) fun v20=>
  cond (decide (v20=0))
   (qa (Ed v7 (⟨v1,v3,v5⟩) (⟨v1,v3,v5⟩) aX aV aQ aF) fun v23=>
   I (0,v23))
   (I (v20,aQ)))
  (qa (f48 (decide (16≤((v11.dt.getD []).length:Int))) 5) fun v25=>
  qa (f46 (I [ec,v25])) fun sY=>
  cond (decide (sY=0))
   (qa (Ed v7 (⟨v1,v3,v5⟩) (⟨v1,v3,v5⟩) aX aV aQ aF) fun v30=>
   I (0,v30))
   (I (sY,aQ)))
theorem zd8 {a1 aX aV aQ aF x1 x2 x3 r}(h:f171 a1 aX aV aQ aF=I r):qm pr (X pr) 171 [.ptr 0 0,aE a1] [kR aX aV aQ aF,x1,x2,x3]=I (Iv r.1,En,[kR aX aV r.2 aF,x1,x2,x3]):=by
 unfold f171 at h
 rw[qj (show pr.bG 171=I sZ from rfl) (by simp)]
 repeat' first|(replace h:=qb h;obtain⟨d,g,h⟩:=h; (with_reducible first|replace g:=vL g|replace g:=eO g|replace g:=jzk g|replace g:=iZ g|replace g:=j73 (x1:=x1) (x2:=x2) (x3:=x3) g|skip);try dsimp only[zg,l3,Gj,zy,yf,jd,qu,bI,jf,vev,bp,q9,yb,aE,aR,aU,aL,aP,aD]at g)|(replace h:=qd h;rcases h with⟨g,h⟩|⟨g,h⟩)
 all_goals (cases h<;>(simp only[go_sem,seval,sZ,jg, *]<;>rfl))
def H0 (a1:GEv)(aX:Int)(aV:Option (List jc))(aQ:Option (List aC))(aF:Option (List bh)):Option (Int×(Option (List aC))):=
 qa (qq (a1.names.getD []) 0) fun v1=>
 qa (oq (⟨aX,aV,aQ,aF⟩) v1) fun v3=>
 qa (qq (aQ.getD []) v3) fun v5=>
 qa (f48 (decide (((v5.dn.getD []).length:Int)=0)) 12) fun v7=>
 qa (f48 (decide (100≤((v5.aM.getD []).length:Int))) 5) fun v9=>
 qa (f46 (I [v7,v9])) fun v11=>
 cond (decide (v11=0))
  (qa (L4 aQ v3) fun ei=>
  I (0,ei))
  (I (v11,aQ))
theorem ziy {a1 aX aV aQ aF x1 x2 x3 r}(h:H0 a1 aX aV aQ aF=I r):qm pr (X pr) 172 [.ptr 0 0,aE a1] [kR aX aV aQ aF,x1,x2,x3]=I (Iv r.1,En,[kR aX aV r.2 aF,x1,x2,x3]):=by
 unfold H0 at h
 rw[qj (show pr.bG 172=I s5 from rfl) (by simp)]
 repeat' first|(replace h:=qb h;obtain⟨d,g,h⟩:=h; (with_reducible first|replace g:=vL g|replace g:=eO g|replace g:=iZ g|replace g:=jhp g|skip);try dsimp only[zg,l3,Gj,zy,yf,jd,qu,bI,jf,vev,bp,q9,yb,aE,aR,aU,aL,aP,aD]at g)|(replace h:=qd h;rcases h with⟨g,h⟩|⟨g,h⟩)
 all_goals (cases h<;>(simp only[go_sem,seval,s5,jg, *]<;>rfl))
def HU (a1:GEv)(aX:Int)(aV:Option (List jc))(aQ:Option (List aC))(aF:Option (List bh)):Option (Int×(Option (List bh))×Bool):=
 qa (qq (a1.names.getD []) 1) fun v1=>
 qa (oq (⟨aX,aV,aQ,aF⟩) v1) fun v3=>
 qa (qq (aQ.getD []) v3) fun v5=>
 qa (D4 v5) fun v7=>
 qa (qq (a1.names.getD []) 0) fun v9=>
 qa (f76 (⟨aX,aV,aQ,aF⟩) v9) fun v11=>
 qa (f48 (decide (0≤v11)) 9) fun ec=>
 qa (f48 (decide (v7=0)) 32) fun fk=>
 qa (f48 (decide (256≤((aF.getD []).length:Int))) 5) fun eN=>
 qa (f46 (I [ec,fk,eN])) fun iW=>
 cond (decide (iW=0))
  (qa (f225 aF (⟨v9,v1,v7,Ge,Ge,[],En,0⟩)) fun v22=>
  I (0,v22,Ga))
  (I (iW,aF,En))
theorem zgt {a1 aX aV aQ aF x1 x2 x3 r}(h:HU a1 aX aV aQ aF=I r):qm pr (X pr) 173 [.ptr 0 0,aE a1] [kR aX aV aQ aF,x1,x2,x3]=I (Iv r.1,En,[kS aX aV En aQ En r.2.1 r.2.2,x1,x2,x3]):=by
 unfold HU at h
 rw[qj (show pr.bG 173=I s6 from rfl) (by simp)]
 repeat' first|(replace h:=qb h;obtain⟨d,g,h⟩:=h; (with_reducible first|replace g:=vL g|replace g:=jth g|replace g:=zQ g|replace g:=eO g|replace g:=iZ g|replace g:=zej g|skip);try dsimp only[zg,l3,Gj,zy,yf,jd,qu,bI,jf,vev,bp,q9,yb,aE,aR,aU,aL,aP,aD]at g)|(replace h:=qd h;rcases h with⟨g,h⟩|⟨g,h⟩)
 all_goals (cases h<;>(simp only[go_sem,seval,s6,jg, *]<;>rfl))
def H7 (a1:GEv)(aX:Int)(aV:Option (List jc))(aQ:Option (List aC))(aF:Option (List bh)):Option (Int×(Option (List bh))):=
 qa (qq (a1.names.getD []) 0) fun v1=>
 qa (f76 (⟨aX,aV,aQ,aF⟩) v1) fun v3=>
 qa (qq (aF.getD []) v3) fun v5=>
 qa (pK (⟨aX,aV,aQ,aF⟩) v5) fun v7=>
 qa (HN v7.aA a1) fun v9=>
 qa (f48 v5.aq 21) fun v11=>
 qa (f48 (!v9) 7) fun ec=>
 qa (f48 (decide (64≤((v5.results.getD []).length:Int))) 5) fun fk=>
 qa (f46 (I [v11,ec,fk])) fun eN=>
 cond (decide (eN=0))
  (qa (TG aF v3 a1) fun v20=>
  I (0,v20))
  (I (eN,aF))
theorem zhf {a1 aX aV aQ aF x1 x2 x3 r}(h:H7 a1 aX aV aQ aF=I r):qm pr (X pr) 175 [.ptr 0 0,aE a1] [kR aX aV aQ aF,x1,x2,x3]=I (Iv r.1,En,[kR aX aV aQ r.2,x1,x2,x3]):=by
 unfold H7 at h
 rw[qj (show pr.bG 175=I s7 from rfl) (by simp)]
 repeat' first|(replace h:=qb h;obtain⟨d,g,h⟩:=h; (with_reducible first|replace g:=zQ g|replace g:=Nj g|replace g:=j2t g|replace g:=eO g|replace g:=iZ g|replace g:=jgi g|skip);try dsimp only[zg,l3,Gj,zy,yf,jd,qu,bI,jf,vev,bp,q9,yb,aE,aR,aU,aL,aP,aD]at g)|(replace h:=qd h;rcases h with⟨g,h⟩|⟨g,h⟩)
 all_goals (cases h<;>(simp only[go_sem,seval,s7,jg, *]<;>rfl))
def H4 (a1:GEv)(aX:Int)(aV:Option (List jc))(aQ:Option (List aC))(aF:Option (List bh)):Option (Int×(Option (List bh))):=
 qa (qq (a1.names.getD []) 0) fun v1=>
 qa (f76 (⟨aX,aV,aQ,aF⟩) v1) fun v3=>
 qa (qq (aF.getD []) v3) fun v5=>
 qa (D2 (⟨aX,aV,aQ,aF⟩) v5) fun v7=>
 qa (f48 v5.aq 21) fun v9=>
 qa (f48 (decide (v5.version=v7)) 32) fun v11=>
 qa (f46 (I [v9,v11])) fun ec=>
 cond (decide (ec=0))
  (qa (TD aF v3 v7) fun dU=>
  I (0,dU))
  (I (ec,aF))
theorem zbl {a1 aX aV aQ aF x1 x2 x3 r}(h:H4 a1 aX aV aQ aF=I r):qm pr (X pr) 176 [.ptr 0 0,aE a1] [kR aX aV aQ aF,x1,x2,x3]=I (Iv r.1,En,[kR aX aV aQ r.2,x1,x2,x3]):=by
 unfold H4 at h
 rw[qj (show pr.bG 176=I s9 from rfl) (by simp)]
 repeat' first|(replace h:=qb h;obtain⟨d,g,h⟩:=h; (with_reducible first|replace g:=zQ g|replace g:=juc g|replace g:=eO g|replace g:=iZ g|replace g:=jf7 g|skip);try dsimp only[zg,l3,Gj,zy,yf,jd,qu,bI,jf,vev,bp,q9,yb,aE,aR,aU,aL,aP,aD]at g)|(replace h:=qd h;rcases h with⟨g,h⟩|⟨g,h⟩)
 all_goals (cases h<;>(simp only[go_sem,seval,s9,jg, *]<;>rfl))
def Ia (a1:GEv)(aX:Int)(aV:Option (List jc))(aQ:Option (List aC))(aF:Option (List bh)):Option (Int×(Option (List bh))):=
 qa (qq (a1.names.getD []) 0) fun v1=>
 qa (f76 (⟨aX,aV,aQ,aF⟩) v1) fun v3=>
 qa (qq (a1.names.getD []) 1) fun v5=>
 qa (f76 (⟨aX,aV,aQ,aF⟩) v5) fun v7=>
 qa (qq (aF.getD []) v3) fun v9=>
 qa (qq (aF.getD []) v7) fun v11=>
 qa (f48 (decide (v3=v7)) 9) fun ec=>
 cond (decide (v9.product=v11.product))
  (qa (f48 (!decide (v9.version=v11.version)) 30) fun dU=>
  cond v9.aq
   (qa (f48 Ga 21) fun iW=>
   cond (decide (v9.partner=[]))
    (qa (f48 (!decide (v11.partner=[])) 35) fun v22=>
    qa (f46 (I [ec,dU,iW,v22])) fun v24=>
    cond (decide (v24=0))
     (qa (vu aF v3 v11) fun sY=>
     qa (vw sY v7 (⟨v9.name,v9.product,v9.version,v9.uses,v9.results,v9.partner,Ga,v9.ah⟩)) fun hO=>
     I (0,hO))
     (I (v24,aF)))
    (qa (f48 Ga 35) fun v31=>
    qa (f46 (I [ec,dU,iW,v31])) fun wZ=>
    cond (decide (wZ=0))
     (qa (vu aF v3 v11) fun vI=>
     qa (vw vI v7 (⟨v9.name,v9.product,v9.version,v9.uses,v9.results,v9.partner,Ga,v9.ah⟩)) fun oX=>
     I (0,oX))
     (I (wZ,aF))))
   (qa (f48 v11.aq 21) fun v40=>
   cond (decide (v9.partner=[]))
    (qa (f48 (!decide (v11.partner=[])) 35) fun pV=>
    qa (f46 (I [ec,dU,v40,pV])) fun zP=>
    cond (decide (zP=0))
     (qa (vu aF v3 v11) fun Jj=>
     qa (vw Jj v7 (⟨v9.name,v9.product,v9.version,v9.uses,v9.results,v9.partner,En,v9.ah⟩)) fun v50=>
     I (0,v50))
     (I (zP,aF)))
    (qa (f48 Ga 35) fun Xz=>
    qa (f46 (I [ec,dU,v40,Xz])) fun ES=>
    cond (decide (ES=0))
     (qa (vu aF v3 v11) fun Nk=>
     qa (vw Nk v7 (⟨v9.name,v9.product,v9.version,v9.uses,v9.results,v9.partner,En,v9.ah⟩)) fun v59=>
     I (0,v59))
     (I (ES,aF)))))
  (qa (f48 Ga 30) fun xd=>
  cond v9.aq
   (qa (f48 Ga 21) fun MI=>
   cond (decide (v9.partner=[]))
    (qa (f48 (!decide (v11.partner=[])) 35) fun XB=>
    qa (f46 (I [ec,xd,MI,XB])) fun MJ=>
    cond (decide (MJ=0))
     (qa (vu aF v3 v11) fun v72=>
     qa (vw v72 v7 (⟨v9.name,v9.product,v9.version,v9.uses,v9.results,v9.partner,Ga,v9.ah⟩)) fun X9=>
     I (0,X9))
     (I (MJ,aF)))
    (qa (f48 Ga 35) fun v76=>
    qa (f46 (I [ec,xd,MI,v76])) fun Nn=>
    cond (decide (Nn=0))
     (qa (vu aF v3 v11) fun MN=>
     qa (vw MN v7 (⟨v9.name,v9.product,v9.version,v9.uses,v9.results,v9.partner,Ga,v9.ah⟩)) fun B3=>
     I (0,B3))
     (I (Nn,aF))))
   (qa (f48 v11.aq 21) fun v85=>
   cond (decide (v9.partner=[]))
    (qa (f48 (!decide (v11.partner=[])) 35) fun Jc=>
    qa (f46 (I [ec,xd,v85,Jc])) fun ET=>
    cond (decide (ET=0))
     (qa (vu aF v3 v11) fun v93=>
     qa (vw v93 v7 (⟨v9.name,v9.product,v9.version,v9.uses,v9.results,v9.partner,En,v9.ah⟩)) fun Jd=>
     I (0,Jd))
     (I (ET,aF)))
    (qa (f48 Ga 35) fun Ya=>
    qa (f46 (I [ec,xd,v85,Ya])) fun Np=>
    cond (decide (Np=0))
     (qa (vu aF v3 v11) fun B4=>
     qa (vw B4 v7 (⟨v9.name,v9.product,v9.version,v9.uses,v9.results,v9.partner,En,v9.ah⟩)) fun Yb=>
     I (0,Yb))
     (I (Np,aF)))))
theorem zdr {a1 aX aV aQ aF x1 x2 x3 r}(h:Ia a1 aX aV aQ aF=I r):qm pr (X pr) 177 [.ptr 0 0,aE a1] [kR aX aV aQ aF,x1,x2,x3]=I (Iv r.1,En,[kR aX aV aQ r.2,x1,x2,x3]):=by
 unfold Ia at h
 rw[qj (show pr.bG 177=I tc from rfl) (by simp)]
 repeat' first|(replace h:=qb h;obtain⟨d,g,h⟩:=h; (with_reducible first|replace g:=zQ g|replace g:=eO g|replace g:=iZ g|replace g:=jgu g|replace g:=jgy g|skip);try dsimp only[zg,l3,Gj,zy,yf,jd,qu,bI,jf,vev,bp,q9,yb,aE,aR,aU,aL,aP,aD]at g)|(replace h:=qd h;rcases h with⟨g,h⟩|⟨g,h⟩)
 all_goals (cases h<;>(simp only[go_sem,seval,tc,jg, *]<;>rfl))
def H2 (a1:GEv)(aX:Int)(aV:Option (List jc))(aQ:Option (List aC))(aF:Option (List bh)):Option (Int×(Option (List jc))):=
 qa (qq (a1.names.getD []) 0) fun v1=>
 qa (f64 (⟨aX,aV,aQ,aF⟩) v1) fun v3=>
 qa (qq (aV.getD []) v3) fun v5=>
 cond v5.held
  (I (34,aV))
  (qa (TA aV v3) fun v8=>
  I (0,v8))
theorem zeg {a1 aX aV aQ aF x1 x2 x3 r}(h:H2 a1 aX aV aQ aF=I r):qm pr (X pr) 178 [.ptr 0 0,aE a1] [kR aX aV aQ aF,x1,x2,x3]=I (Iv r.1,En,[kR aX r.2 aQ aF,x1,x2,x3]):=by
 unfold H2 at h
 rw[qj (show pr.bG 178=I tf from rfl) (by simp)]
 repeat' first|(replace h:=qb h;obtain⟨d,g,h⟩:=h;with_reducible first|replace g:=EY g|replace g:=jfu g|skip)|(replace h:=qd h;rcases h with⟨g,h⟩|⟨g,h⟩)
 all_goals (cases h<;>(simp only[go_sem,seval,tf,jg, *]<;>rfl))
def H3 (a1:GEv)(aX:Int)(aV:Option (List jc))(aQ:Option (List aC))(aF:Option (List bh)):Option (Int×(Option (List jc))):=
 qa (qq (a1.names.getD []) 0) fun v1=>
 qa (f64 (⟨aX,aV,aQ,aF⟩) v1) fun v3=>
 qa (qq (aV.getD []) v3) fun v5=>
 cond v5.held
  (qa (TB aV v3) fun v8=>
  I (0,v8))
  (I (20,aV))
theorem zgc {a1 aX aV aQ aF x1 x2 x3 r}(h:H3 a1 aX aV aQ aF=I r):qm pr (X pr) 179 [.ptr 0 0,aE a1] [kR aX aV aQ aF,x1,x2,x3]=I (Iv r.1,En,[kR aX r.2 aQ aF,x1,x2,x3]):=by
 unfold H3 at h
 rw[qj (show pr.bG 179=I ti from rfl) (by simp)]
 repeat' first|(replace h:=qb h;obtain⟨d,g,h⟩:=h;with_reducible first|replace g:=EY g|replace g:=jj1 g|skip)|(replace h:=qd h;rcases h with⟨g,h⟩|⟨g,h⟩)
 all_goals (cases h<;>(simp only[go_sem,seval,ti,jg, *]<;>rfl))
def H6 (a1:GEv)(aX:Int)(aV:Option (List jc))(aQ:Option (List aC))(aF:Option (List bh)):Option (Int×(Option (List bh))):=
 qa (qq (a1.names.getD []) 0) fun v1=>
 qa (f76 (⟨aX,aV,aQ,aF⟩) v1) fun v3=>
 qa (qq (aF.getD []) v3) fun v5=>
 cond v5.aq
  (qa (TF aF v3) fun v8=>
  I (0,v8))
  (I (20,aF))
theorem zch {a1 aX aV aQ aF x1 x2 x3 r}(h:H6 a1 aX aV aQ aF=I r):qm pr (X pr) 181 [.ptr 0 0,aE a1] [kR aX aV aQ aF,x1,x2,x3]=I (Iv r.1,En,[kR aX aV aQ r.2,x1,x2,x3]):=by
 unfold H6 at h
 rw[qj (show pr.bG 181=I tj from rfl) (by simp)]
 repeat' first|(replace h:=qb h;obtain⟨d,g,h⟩:=h;with_reducible first|replace g:=zQ g|replace g:=jkn g|skip)|(replace h:=qd h;rcases h with⟨g,h⟩|⟨g,h⟩)
 all_goals (cases h<;>(simp only[go_sem,seval,tj,jg, *]<;>rfl))
end Go.Z
namespace Go.Z
open Go Go.Abs Go.W
def H8 (a1:GEv)(aX:Int)(aV:Option (List jc))(aQ:Option (List aC))(aF:Option (List bh)):Option (Int×(Option (List jc))×(Option (List bh))):=
 qa (qq (a1.names.getD []) 0) fun v1=>
 qa (f76 (⟨aX,aV,aQ,aF⟩) v1) fun v3=>
 qa (qq (a1.names.getD []) 1) fun v5=>
 qa (f64 (⟨aX,aV,aQ,aF⟩) v5) fun v7=>
 qa (qq (a1.values.getD []) 1) fun v9=>
 qa (qq (aF.getD []) v3) fun v11=>
 qa (qq (aV.getD []) v7) fun ec=>
 qa (pK (⟨aX,aV,aQ,aF⟩) v11) fun fk=>
 qa (HK fk.aB ec) fun eN=>
 qa (f48 v11.aq 21) fun iW=>
 qa (f48 (decide (v9=0)) 3) fun v21=>
 qa (f48 ec.held 34) fun v23=>
 qa (f48 (!eN) 7) fun v25=>
 qa (f48 (decide (ec.left<v9)) 4) fun sY=>
 qa (f46 (I [iW,v21,v23,v25,sY])) fun hO=>
 cond (decide (hO=0))
  (qa (TH aV v7 v9) fun lF=>
  qa (yT v11.uses ec) fun ER=>
  cond (decide (0≤ER))
   (qa (qq (v11.uses.getD []) ER) fun v37=>
   qa (gj aF v3 (Eg ⟨ec.name,qe .i64 (v9+v37.n)⟩ ec)) fun us=>I (hO,lF,us))
   (qa (gj aF v3 (Eg ⟨ec.name,v9⟩ ec)) fun us=>I (hO,lF,us)))
  (I (hO,aV,aF))
theorem zd0 {a1 aX aV aQ aF x1 x2 x3 r}(h:H8 a1 aX aV aQ aF=I r):
  (r.1≠0∧r.2=(aV,aF)∧qm pr (X pr) 174 [.ptr 0 0,aE a1] [kR aX aV aQ aF,x1,x2,x3]=I (Iv r.1,En,[kR aX aV aQ aF,x1,x2,x3])) ∨
  (r.1=0∧∃(n:Nat) (b:bg) (cs:List (AVal×Bool)),qm pr (X pr) 174 [.ptr 0 0,aE a1] [kR aX aV aQ aF,x1,x2,x3]=I (Iv 0,En,[.cells [(Iv aX,En),(sl 5 jd r.2.1,En),(sl 4 qu aQ,En),(.ms 5 0 n,En)],x1,x2,x3,b,.cells cs])∧cs.map (·.1)=j8 bI (r.2.2.getD [])∧n=(r.2.2.getD []).length∧0<n):=by
 unfold H8 at h
 obtain⟨v1,h2,h⟩:=qb h
 obtain⟨v3,h4,h⟩:=qb h
 have B9:qc pr (X pr) 76 [aG aX aV aQ aF,.str v1]=I (Iv v3,En):=zQ h4
 obtain⟨v5,h6,h⟩:=qb h
 obtain⟨v7,h8,h⟩:=qb h
 have Yc:qc pr (X pr) 64 [aG aX aV aQ aF,.str v5]=I (Iv v7,En):=EY h8
 obtain⟨v9,lg,h⟩:=qb h
 obtain⟨v11,mb,h⟩:=qb h
 obtain⟨ec,nF,h⟩:=qb h
 obtain⟨fk,nE,h⟩:=qb h
 have Cb:qc pr (X pr) 126 [aG aX aV aQ aF,aU v11]=I (aD fk,En):=Nj nE
 obtain⟨eN,Ja,h⟩:=qb h
 have Cc:qc pr (X pr) 193 [sl 2 bp fk.aB,.fn (.func 226) [] [.ai (aL ec)]]=I (.bool eN,En):=j68 Ja
 obtain⟨iW,AX,h⟩:=qb h
 have Cd:qc pr (X pr) 48 [.bool v11.aq,Iv 21]=I (Iv iW,En):=eO AX
 obtain⟨v21,Gs,h⟩:=qb h
 have Ce:qc pr (X pr) 48 [.bool (decide (v9=0)),Iv 3]=I (Iv v21,En):=eO Gs
 obtain⟨v23,Gt,h⟩:=qb h
 have Cf:qc pr (X pr) 48 [.bool ec.held,Iv 34]=I (Iv v23,En):=eO Gt
 obtain⟨v25,Xw,h⟩:=qb h
 have Cg:qc pr (X pr) 48 [.bool (!eN),Iv 7]=I (Iv v25,En):=eO Xw
 obtain⟨sY,Xx,h⟩:=qb h
 have Ch:qc pr (X pr) 48 [.bool (decide (ec.left<v9)),Iv 4]=I (Iv sY,En):=eO Xx
 obtain⟨hO,Jb,h⟩:=qb h
 have Ci:qc pr (X pr) 46 [.list En 1 [Iv iW,Iv v21,Iv v23,Iv v25,Iv sY]]=I (Iv hO,En):=iZ Jb
 rcases qd h with⟨wT,h⟩|⟨wT,h⟩
 ·obtain⟨lF,Yd,h⟩:=qb h
  have Jn:qc pr (X pr) 227 [sl 5 jd aV,Iv v7,.fn (.func 228) [] [.ai (Iv v9)]]=I (sl 5 jd lF,En):=jhg Yd
  obtain⟨ER,h35,h⟩:=qb h
  have Jo:qc pr (X pr) 230 [sl 2 bp v11.uses,.fn (.func 229) [] [.ai (aL ec)]]=I (Iv ER,En):=jwh h35
  rcases qd h with⟨Ye,h⟩|⟨Ye,h⟩
  ·obtain⟨v37,Yf,h⟩:=qb h
   obtain⟨us,hu,h⟩:=qb h
   cases h
   obtain⟨n,x,y,rfl,hl,hx,hy,rfl⟩:=zO hu
   obtain⟨cs,g1,g2⟩:=jup (b0:=(kR aX lF aQ aF)) (b1:=x1) (b2:=x2) (de:=x3) hx hy
   have w:=jlu hl (E9.1 hx).1 g1
   simp only[qzs]at w
   refine .inr ⟨of_decide_eq_true wT,(aF.getD []).length,.cells [(.str ec.name,En),(Iv (qe .i64 (v9+v37.n)),En)],cs,?_,g2,by simp,by have:=(E9.1 hx).1;omega⟩
   rw[qj (show pr.bG 174=I ll from rfl) (by simp)]
   simp only[go_sem,seval,ll,zh h2,B9,zh h6,Yc,zh lg,zh mb,zh nF,Cb,Cc,Cd,Ce,Cf,Cg,Ch,Ci,wT,Jn,Jo,Ye,zh Yf,w,(show ∀n,below 5 (.ms 5 0 n)=En from fun _=>rfl),G4,cond_false]
  ·obtain⟨us,hu,h⟩:=qb h
   cases h
   obtain⟨n,x,y,rfl,hl,hx,hy,rfl⟩:=zO hu
   obtain⟨cs,g1,g2⟩:=jup (b0:=(kR aX lF aQ aF)) (b1:=x1) (b2:=x2) (de:=x3) hx hy
   have w:=jlu hl (E9.1 hx).1 g1
   simp only[qzs]at w
   refine .inr ⟨of_decide_eq_true wT,(aF.getD []).length,.cells [(.str ec.name,En),(Iv v9,En)],cs,?_,g2,by simp,by have:=(E9.1 hx).1;omega⟩
   rw[qj (show pr.bG 174=I ll from rfl) (by simp)]
   simp only[go_sem,seval,ll,zh h2,B9,zh h6,Yc,zh lg,zh mb,zh nF,Cb,Cc,Cd,Ce,Cf,Cg,Ch,Ci,wT,Jn,Jo,Ye,w,(show ∀n,below 5 (.ms 5 0 n)=En from fun _=>rfl),G4,cond_false]
 ·cases h
  refine .inl ⟨of_decide_eq_false wT,rfl,?_⟩
  rw[qj (show pr.bG 174=I ll from rfl) (by simp)]
  simp only[go_sem,seval,ll,zh h2,B9,zh h6,Yc,zh lg,zh mb,zh nF,Cb,Cc,Cd,Ce,Cf,Cg,Ch,Ci,wT]<;>rfl
end Go.Z
end
