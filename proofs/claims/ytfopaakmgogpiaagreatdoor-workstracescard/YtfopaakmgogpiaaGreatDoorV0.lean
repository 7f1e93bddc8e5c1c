/- Chapter 10. -/
import Derived.Test.YtfopaakmgogpiaaGreatDoorW6
import Derived.Test.YtfopaakmgogpiaaGreatDoorW4
set_option linter.unusedVariables false
set_option linter.unusedSimpArgs false
set_option maxRecDepth 100000
noncomputable section
open Option renaming some→I,none→Ev
open Bool renaming false→Eh,true→E6,and_self→Gm
open Nat renaming le_of_ble_eq_true→El,beq_refl→E7,ble_eq_true_of_le→Ga,beq→Gb,blt_eq→Gl
open List renaming replicate→En,getElem?_eq_some_iff→Eo,length_set→E5,take_of_length_le→Gc,drop_eq_nil_of_le→Gh,length_map→Gi,nil_append→Gk,map→Gn
namespace Go.Z
open Go Go.Abs Go.W
section
variable {p:qr}{xc:XC}{h0:Nat}{al:Option (List Nat)}{e:Env}{h:j8}{α:Type}
structure oC (f:α→qa)(sz:Nat):Prop where
 len:∀x,(f x).flat.length=sz
 sc:∀x,(f x).flat.all ze=E6
 ag:∀x,f x=.agg (f x).flat
 ref:∀x,(f x).flat.any L7=E6
 big:1<sz
variable {f:α→qa}{sz:Nat}
theorem jem (E:oC f sz)(l:List α):(yv f l).all ze=E6:=by
 induction l with
 |nil=>rfl
 |cons x l ih=>rw[vS,List.all_append,E.sc,ih];rfl
theorem q6d (E:oC f sz):∀(l:List α),lR sz l.length (yv f l)=l.map f
 | []=>rfl
 |x::l=>by
  have hb:Gb sz 1=Eh:=by
   have:=E.big
   cases h:Gb sz 1 with
   |false=>rfl
   |true=>have:=Nat.eq_of_beq_eq_true h;omega
  have hl:=E.len x
  show(bif Gb sz 1 then(yv f (x::l)).headD .undef else .agg ((yv f (x::l)).take sz))::lR sz l.length ((yv f (x::l)).drop sz)=_
  rw[hb,cond_false,vS,List.take_append_of_le_length (by omega),List.drop_append_of_le_length (by omega),Gc (by omega),Gh (by omega),Gk,q6d E l,←E.ag]
  rfl
theorem vg (E:oC f sz){l:List α}(hl:0<l.length){cs:List (qa×Bool)}(hc:cs.map (·.1)=yv f l):NU (I cs) 0 l.length=I (.list Eh sz (l.map f)):=by
 have du:cs.length=l.length*sz:=by rw[←Gi (f:=(·.1)),hc,GM E.len]
 have hdiv:cs.length / l.length=sz:=by rw[du];exact Nat.mul_div_cancel_left _ hl
 have V3:cs.any (fun c=>L7 c.1)=E6:=by
  cases l with
  |nil=>cases hl
  |cons x l=>
   have:(cs.map (·.1)).any L7=E6:=by rw[hc,vS,List.any_append,E.ref];rfl
   rw[List.any_map]at this
   exact this
 have hr:Dg 0 l.length cs=E6:=by
  have hb:Nat.blt 1 sz=E6:=Gl.mpr E.big
  rw[Dg,hdiv,hb,V3,du,E7,E7];rfl
 unfold NU
 simp only[hr,cT,hdiv]
 rw[hc,q6d E]
theorem Bf {r n V4:Nat}{zero:List qa}(hz:zero.length=sz)(hs:zero.all ze=E6)(h1:0<sz)(hn:n≤1073741824)(hb:V4≤4096){h':j8}(hh:aI h0 h r (.cells (cellsOf (En n zero).flatten))=I h'):
  vf h0 r sz V4 zero h (I (Iv (n:Int))) (I (Iv (n:Int)))=I ⟨.ms (h0+r) 0 n,Eh,Ev,h'⟩:=by
 show(bif Gb n n&&Nat.ble n 1073741824&&Nat.ble V4 4096&&Gb zero.length sz&&Nat.blt 0 sz&&zero.all ze then _ else _)=_
 rw[E7,Ga hn,Ga hb,hz,E7,Gl.mpr h1,hs]
 simp only[Gm,cT,hh]
 rfl
theorem Bg (E:oC f sz){b:Nat}{l:Option (List α)}{cs:List (qa×Bool)}(hb:h[b]?=I (.cells cs))(hc:cs.length=(l.getD []).length*sz)(dh:yw h0 al b=E6):
  wj h0 al sz h (I (.ms b 0 (l.getD []).length)) (I (sl sz f l))=I ⟨Lv l,Eh,Ev,h.set b (.cells (bz f (l.getD [])))⟩:=by
 have kU:yl h b=I cs:=by rw[q5g,hb];rfl
 have aY:=(Eo.1 hb).1
 have cy:zy sz (l.getD []).length (sl sz f l)=I ((l.getD []).length,yv f (l.getD [])):=by
  cases l with
  |none=>simp[sl,zy,yv]
  |some l=>
   show(bif Gb sz sz||(l.map f).isEmpty then I (min (l.map f).length l.length,((l.map f).take l.length).flatMap qa.flat)else Ev)=_
   rw[E7,Gi,Nat.min_self,Gc (by rw[Gi];exact Nat.le_refl _)]
   rfl
 have zT:(yv f (l.getD [])).length=(l.getD []).length*sz:=GM E.len _
 have bO:yi cs 0 (yv f (l.getD []))=I (bz f (l.getD [])):=by
  unfold yi
  rw[jem E,zT,hc,Ga (by omega)]
  simp only[Gm,cT,List.take_zero,Gk]
  rw[Gh (by rw[hc];omega),List.append_nil]
  rfl
 have bh:yj h b (.cells (bz f (l.getD [])))=I (h.set b (.cells (bz f (l.getD [])))):=by
  simp only[yj,Gl.mpr aY,cT]
 show(bif yw h0 al b then(match yl h b with
   |some cs=>(match zy sz (l.getD []).length (sl sz f l)with
    |some (n,vs)=>(match yi cs 0 vs with
     |some dX=>bif Gb vs.length (n*sz)then(match yj h b (.cells dX)with
      |some h'=>val h' (Iv n)
      |none=>Ev)else Ev
     |none=>Ev)
    |none=>Ev)
   |none=>Ev)else Ev)=_
 rw[dh,kU,cy]
 simp only[cT,bO,zT,E7,bh]
 rfl
theorem vh {b n i:Nat}{k:IntKind}(hi:i<n):jL sz h (I (.ms b 0 n)) (I (.int k (i:Int)))=I ⟨.ptr b (i*sz),Eh,Ev,h⟩:=by
 have:idx n (.int k (i:Int))=I i:=by rw[xF];exact Ud hi
 simp only[jL,this,Nat.zero_add]
 rfl
end
end Go.Z
set_option maxHeartbeats 4000000
namespace Go.Z
open Go Go.Abs Go.W
theorem fR:oC z8 5:=⟨fun _=>rfl,fun _=>rfl,fun _=>rfl,fun _=>rfl,by omega⟩
theorem oD:oC aV 2:=⟨fun _=>rfl,fun _=>rfl,fun _=>rfl,fun _=>rfl,by omega⟩
theorem rm:oC zz 3:=⟨fun _=>rfl,fun _=>rfl,fun _=>rfl,fun _=>rfl,by omega⟩
theorem cm:oC zu 4:=⟨fun _=>rfl,fun _=>by simp only[go_sem,seval,q8f]<;>simp only[List.all,go_sem],fun _=>rfl,fun _=>rfl,by omega⟩
theorem dK:oC bf 8:=⟨fun _=>rfl,fun _=>by simp only[go_sem,seval,jdk]<;>simp only[List.all,go_sem],fun _=>rfl,fun _=>rfl,by omega⟩
theorem zeq {j:Nat}{caps:List qa}{l:Option (List qn)}{i:Nat}{cs:List (qa×Bool)}(hlen:(l.getD []).length≤1073741824)(hi:i<(l.getD []).length)(du:zg pr (X pr) j (.ptr 0 (i*4)::caps) [.cells (bz zu (l.getD []))]=I (.az [],Eh,[.cells cs])):zg pr (X pr) 178 [sl 4 zu l,Iv (i:Int),.fn (.func j) [] caps] []=I (.ms 0 0 ((l.getD []).length),Eh,[.cells cs]):=by
 rw[zh (show pr.bH 178=I rn from rfl) (by simp)]
 have oE:vf 0 0 4 88 [(.str []),(Nl),(Nl),(Nl)] [.hole] (I (Lv l)) (I (Lv l))=I ⟨.ms 0 0 (l.getD []).length,Eh,Ev,[.cells (cellsOf (En (l.getD []).length [(.str []),(Nl),(Nl),(Nl)]).flatten)]⟩:=by apply Bf<;>first|exact hlen|rfl|decide
 have oF:wj 1 Ev 4 [.cells (cellsOf (En (l.getD []).length [(.str []),(Nl),(Nl),(Nl)]).flatten)] (I (.ms 0 0 (l.getD []).length)) (I (sl 4 zu l))=I ⟨Lv l,Eh,Ev,[.cells (bz zu (l.getD []))]⟩:=Bg cm rfl (by simp[cellsOf]) rfl
 simp only[go_sem,seval,rn,oE,oF,vh hi,du]<;>rfl
theorem jyl{y:qn} {j:Nat} {caps:List qa} {l:Option (List qn)} {i:Nat} {cs:List (qa×Bool)} (hlen:(l.getD []).length≤1073741824) (hi:i<(l.getD []).length) (du:zg pr (X pr) j (.ptr 0 (i*4)::caps) [.cells (bz zu (l.getD []))]=I (.az [],Eh,[.cells cs])) (hcs:cs.map (·.1)=yv zu ((l.getD []).set i y)):jz pr (X pr) 178 [sl 4 zu l,Iv (i:Int),.fn (.func j) [] caps]=I (sl 4 zu (I ((l.getD []).set i y)),Eh):=by
 have hl:((l.getD []).set i y).length=(l.getD []).length:=E5
 have hz:aA [.cells cs] (.ms 0 0 ((l.getD []).length))=I (sl 4 zu (I ((l.getD []).set i y))):=by
  rw[Ep,←hl]
  exact vg cm (by rw[hl];omega) hcs
 exact k9 rfl (zeq hlen hi du) hz (by first|rfl|simp only[go_sem,seval])
theorem zcz {j:Nat}{caps:List qa}{l:Option (List qj)}{i:Nat}{cs:List (qa×Bool)}(hlen:(l.getD []).length≤1073741824)(hi:i<(l.getD []).length)(du:zg pr (X pr) j (.ptr 0 (i*5)::caps) [.cells (bz z8 (l.getD []))]=I (.az [],Eh,[.cells cs])):zg pr (X pr) 185 [sl 5 z8 l,Iv (i:Int),.fn (.func j) [] caps] []=I (.ms 0 0 ((l.getD []).length),Eh,[.cells cs]):=by
 rw[zh (show pr.bH 185=I rz from rfl) (by simp)]
 have oE:vf 0 0 5 56 [(.str []),(.str []),(Iv 0),(Iv 0),(.bool Eh)] [.hole] (I (Lv l)) (I (Lv l))=I ⟨.ms 0 0 (l.getD []).length,Eh,Ev,[.cells (cellsOf (En (l.getD []).length [(.str []),(.str []),(Iv 0),(Iv 0),(.bool Eh)]).flatten)]⟩:=by apply Bf<;>first|exact hlen|rfl|decide
 have oF:wj 1 Ev 5 [.cells (cellsOf (En (l.getD []).length [(.str []),(.str []),(Iv 0),(Iv 0),(.bool Eh)]).flatten)] (I (.ms 0 0 (l.getD []).length)) (I (sl 5 z8 l))=I ⟨Lv l,Eh,Ev,[.cells (bz z8 (l.getD []))]⟩:=Bg fR rfl (by simp[cellsOf]) rfl
 simp only[go_sem,seval,rz,oE,oF,vh hi,du]<;>rfl
theorem j2o{y:qj} {j:Nat} {caps:List qa} {l:Option (List qj)} {i:Nat} {cs:List (qa×Bool)} (hlen:(l.getD []).length≤1073741824) (hi:i<(l.getD []).length) (du:zg pr (X pr) j (.ptr 0 (i*5)::caps) [.cells (bz z8 (l.getD []))]=I (.az [],Eh,[.cells cs])) (hcs:cs.map (·.1)=yv z8 ((l.getD []).set i y)):jz pr (X pr) 185 [sl 5 z8 l,Iv (i:Int),.fn (.func j) [] caps]=I (sl 5 z8 (I ((l.getD []).set i y)),Eh):=by
 have hl:((l.getD []).set i y).length=(l.getD []).length:=E5
 have hz:aA [.cells cs] (.ms 0 0 ((l.getD []).length))=I (sl 5 z8 (I ((l.getD []).set i y))):=by
  rw[Ep,←hl]
  exact vg fR (by rw[hl];omega) hcs
 exact k9 rfl (zcz hlen hi du) hz (by first|rfl|simp only[go_sem,seval])
theorem zb4 {j:Nat}{caps:List qa}{l:Option (List qe)}{i:Nat}{cs:List (qa×Bool)}(hlen:(l.getD []).length≤1073741824)(hi:i<(l.getD []).length)(du:zg pr (X pr) j (.ptr 0 (i*8)::caps) [.cells (bz bf (l.getD []))]=I (.az [],Eh,[.cells cs])):zg pr (X pr) 189 [sl 8 bf l,Iv (i:Int),.fn (.func j) [] caps] []=I (.ms 0 0 ((l.getD []).length),Eh,[.cells cs]):=by
 rw[zh (show pr.bH 189=I mW from rfl) (by simp)]
 have oE:vf 0 0 8 120 [(.str []),(.str []),(Iv 0),(Nl),(Nl),(.str []),(.bool Eh),(Iv 0)] [.hole] (I (Lv l)) (I (Lv l))=I ⟨.ms 0 0 (l.getD []).length,Eh,Ev,[.cells (cellsOf (En (l.getD []).length [(.str []),(.str []),(Iv 0),(Nl),(Nl),(.str []),(.bool Eh),(Iv 0)]).flatten)]⟩:=by apply Bf<;>first|exact hlen|rfl|decide
 have oF:wj 1 Ev 8 [.cells (cellsOf (En (l.getD []).length [(.str []),(.str []),(Iv 0),(Nl),(Nl),(.str []),(.bool Eh),(Iv 0)]).flatten)] (I (.ms 0 0 (l.getD []).length)) (I (sl 8 bf l))=I ⟨Lv l,Eh,Ev,[.cells (bz bf (l.getD []))]⟩:=Bg dK rfl (by simp[cellsOf]) rfl
 simp only[go_sem,seval,mW,oE,oF,vh hi,du]<;>rfl
theorem j1g{y:qe} {j:Nat} {caps:List qa} {l:Option (List qe)} {i:Nat} {cs:List (qa×Bool)} (hlen:(l.getD []).length≤1073741824) (hi:i<(l.getD []).length) (du:zg pr (X pr) j (.ptr 0 (i*8)::caps) [.cells (bz bf (l.getD []))]=I (.az [],Eh,[.cells cs])) (hcs:cs.map (·.1)=yv bf ((l.getD []).set i y)):jz pr (X pr) 189 [sl 8 bf l,Iv (i:Int),.fn (.func j) [] caps]=I (sl 8 bf (I ((l.getD []).set i y)),Eh):=by
 have hl:((l.getD []).set i y).length=(l.getD []).length:=E5
 have hz:aA [.cells cs] (.ms 0 0 ((l.getD []).length))=I (sl 8 bf (I ((l.getD []).set i y))):=by
  rw[Ep,←hl]
  exact vg dK (by rw[hl];omega) hcs
 exact k9 rfl (zb4 hlen hi du) hz (by first|rfl|simp only[go_sem,seval])
theorem jjy {b0 b1 b2 b3 b4:qm}{j:Nat}{caps:List qa}{l:Option (List qe)}{i:Nat}{cs:List (qa×Bool)}(hlen:(l.getD []).length≤1073741824)(hi:i<(l.getD []).length)(du:zg pr (X pr) j (.ptr 5 (i*8)::caps) [b0,b1,b2,b3,b4,.cells (bz bf (l.getD []))]=I (.az [],Eh,[b0,b1,b2,b3,b4,.cells cs])):zg pr (X pr) 189 [sl 8 bf l,Iv (i:Int),.fn (.func j) [] caps] [b0,b1,b2,b3,b4]=I (.ms 5 0 ((l.getD []).length),Eh,[b0,b1,b2,b3,b4,.cells cs]):=by
 rw[zh (show pr.bH 189=I mW from rfl) (by simp)]
 have oE:vf 5 0 8 120 [(.str []),(.str []),(Iv 0),(Nl),(Nl),(.str []),(.bool Eh),(Iv 0)] [b0,b1,b2,b3,b4,.hole] (I (Lv l)) (I (Lv l))=I ⟨.ms 5 0 (l.getD []).length,Eh,Ev,[b0,b1,b2,b3,b4,.cells (cellsOf (En (l.getD []).length [(.str []),(.str []),(Iv 0),(Nl),(Nl),(.str []),(.bool Eh),(Iv 0)]).flatten)]⟩:=by apply Bf<;>first|exact hlen|rfl|decide
 have oF:wj 6 Ev 8 [b0,b1,b2,b3,b4,.cells (cellsOf (En (l.getD []).length [(.str []),(.str []),(Iv 0),(Nl),(Nl),(.str []),(.bool Eh),(Iv 0)]).flatten)] (I (.ms 5 0 (l.getD []).length)) (I (sl 8 bf l))=I ⟨Lv l,Eh,Ev,[b0,b1,b2,b3,b4,.cells (bz bf (l.getD []))]⟩:=Bg dK rfl (by simp[cellsOf]) rfl
 simp only[go_sem,seval,mW,oE,oF,vh hi,du]<;>rfl
theorem zcm {j:Nat}{caps:List qa}{l:Option (List qk)}{i:Nat}{cs:List (qa×Bool)}(hlen:(l.getD []).length≤1073741824)(hi:i<(l.getD []).length)(du:zg pr (X pr) j (.ptr 0 (i*2)::caps) [.cells (bz aV (l.getD []))]=I (.az [],Eh,[.cells cs])):zg pr (X pr) 237 [sl 2 aV l,Iv (i:Int),.fn (.func j) [] caps] []=I (.ms 0 0 ((l.getD []).length),Eh,[.cells cs]):=by
 rw[zh (show pr.bH 237=I rA from rfl) (by simp)]
 have oE:vf 0 0 2 24 [(.str []),(Iv 0)] [.hole] (I (Lv l)) (I (Lv l))=I ⟨.ms 0 0 (l.getD []).length,Eh,Ev,[.cells (cellsOf (En (l.getD []).length [(.str []),(Iv 0)]).flatten)]⟩:=by apply Bf<;>first|exact hlen|rfl|decide
 have oF:wj 1 Ev 2 [.cells (cellsOf (En (l.getD []).length [(.str []),(Iv 0)]).flatten)] (I (.ms 0 0 (l.getD []).length)) (I (sl 2 aV l))=I ⟨Lv l,Eh,Ev,[.cells (bz aV (l.getD []))]⟩:=Bg oD rfl (by simp[cellsOf]) rfl
 simp only[go_sem,seval,rA,oE,oF,vh hi,du]<;>rfl
theorem j36{y:qk} {j:Nat} {caps:List qa} {l:Option (List qk)} {i:Nat} {cs:List (qa×Bool)} (hlen:(l.getD []).length≤1073741824) (hi:i<(l.getD []).length) (du:zg pr (X pr) j (.ptr 0 (i*2)::caps) [.cells (bz aV (l.getD []))]=I (.az [],Eh,[.cells cs])) (hcs:cs.map (·.1)=yv aV ((l.getD []).set i y)):jz pr (X pr) 237 [sl 2 aV l,Iv (i:Int),.fn (.func j) [] caps]=I (sl 2 aV (I ((l.getD []).set i y)),Eh):=by
 have hl:((l.getD []).set i y).length=(l.getD []).length:=E5
 have hz:aA [.cells cs] (.ms 0 0 ((l.getD []).length))=I (sl 2 aV (I ((l.getD []).set i y))):=by
  rw[Ep,←hl]
  exact vg oD (by rw[hl];omega) hcs
 exact k9 rfl (zcm hlen hi du) hz (by first|rfl|simp only[go_sem,seval])
theorem zcb {j:Nat}{caps:List qa}{l:Option (List qi)}{i:Nat}{cs:List (qa×Bool)}(hlen:(l.getD []).length≤1073741824)(hi:i<(l.getD []).length)(du:zg pr (X pr) j (.ptr 0 (i*3)::caps) [.cells (bz zz (l.getD []))]=I (.az [],Eh,[.cells cs])):zg pr (X pr) 241 [sl 3 zz l,Iv (i:Int),.fn (.func j) [] caps] []=I (.ms 0 0 ((l.getD []).length),Eh,[.cells cs]):=by
 rw[zh (show pr.bH 241=I rC from rfl) (by simp)]
 have oE:vf 0 0 3 32 [(.str []),(Iv 0),(Iv 0)] [.hole] (I (Lv l)) (I (Lv l))=I ⟨.ms 0 0 (l.getD []).length,Eh,Ev,[.cells (cellsOf (En (l.getD []).length [(.str []),(Iv 0),(Iv 0)]).flatten)]⟩:=by apply Bf<;>first|exact hlen|rfl|decide
 have oF:wj 1 Ev 3 [.cells (cellsOf (En (l.getD []).length [(.str []),(Iv 0),(Iv 0)]).flatten)] (I (.ms 0 0 (l.getD []).length)) (I (sl 3 zz l))=I ⟨Lv l,Eh,Ev,[.cells (bz zz (l.getD []))]⟩:=Bg rm rfl (by simp[cellsOf]) rfl
 simp only[go_sem,seval,rC,oE,oF,vh hi,du]<;>rfl
theorem jzb{y:qi} {j:Nat} {caps:List qa} {l:Option (List qi)} {i:Nat} {cs:List (qa×Bool)} (hlen:(l.getD []).length≤1073741824) (hi:i<(l.getD []).length) (du:zg pr (X pr) j (.ptr 0 (i*3)::caps) [.cells (bz zz (l.getD []))]=I (.az [],Eh,[.cells cs])) (hcs:cs.map (·.1)=yv zz ((l.getD []).set i y)):jz pr (X pr) 241 [sl 3 zz l,Iv (i:Int),.fn (.func j) [] caps]=I (sl 3 zz (I ((l.getD []).set i y)),Eh):=by
 have hl:((l.getD []).set i y).length=(l.getD []).length:=E5
 have hz:aA [.cells cs] (.ms 0 0 ((l.getD []).length))=I (sl 3 zz (I ((l.getD []).set i y))):=by
  rw[Ep,←hl]
  exact vg rm (by rw[hl];omega) hcs
 exact k9 rfl (zcb hlen hi du) hz (by first|rfl|simp only[go_sem,seval])
theorem zde {j:Nat}{caps:List qa}{l:Option (List qk)}{i:Nat}{cs:List (qa×Bool)}(hlen:(l.getD []).length≤1073741824)(hi:i<(l.getD []).length)(du:zg pr (X pr) j (.ptr 0 (i*2)::caps) [.cells (bz aV (l.getD []))]=I (.az [],Eh,[.cells cs])):zg pr (X pr) 248 [sl 2 aV l,Iv (i:Int),.fn (.func j) [] caps] []=I (.ms 0 0 ((l.getD []).length),Eh,[.cells cs]):=by
 rw[zh (show pr.bH 248=I rD from rfl) (by simp)]
 have oE:vf 0 0 2 24 [(.str []),(Iv 0)] [.hole] (I (Lv l)) (I (Lv l))=I ⟨.ms 0 0 (l.getD []).length,Eh,Ev,[.cells (cellsOf (En (l.getD []).length [(.str []),(Iv 0)]).flatten)]⟩:=by apply Bf<;>first|exact hlen|rfl|decide
 have oF:wj 1 Ev 2 [.cells (cellsOf (En (l.getD []).length [(.str []),(Iv 0)]).flatten)] (I (.ms 0 0 (l.getD []).length)) (I (sl 2 aV l))=I ⟨Lv l,Eh,Ev,[.cells (bz aV (l.getD []))]⟩:=Bg oD rfl (by simp[cellsOf]) rfl
 simp only[go_sem,seval,rD,oE,oF,vh hi,du]<;>rfl
theorem jyk{y:qk} {j:Nat} {caps:List qa} {l:Option (List qk)} {i:Nat} {cs:List (qa×Bool)} (hlen:(l.getD []).length≤1073741824) (hi:i<(l.getD []).length) (du:zg pr (X pr) j (.ptr 0 (i*2)::caps) [.cells (bz aV (l.getD []))]=I (.az [],Eh,[.cells cs])) (hcs:cs.map (·.1)=yv aV ((l.getD []).set i y)):jz pr (X pr) 248 [sl 2 aV l,Iv (i:Int),.fn (.func j) [] caps]=I (sl 2 aV (I ((l.getD []).set i y)),Eh):=by
 have hl:((l.getD []).set i y).length=(l.getD []).length:=E5
 have hz:aA [.cells cs] (.ms 0 0 ((l.getD []).length))=I (sl 2 aV (I ((l.getD []).set i y))):=by
  rw[Ep,←hl]
  exact vg oD (by rw[hl];omega) hcs
 exact k9 rfl (zde hlen hi du) hz (by first|rfl|simp only[go_sem,seval])
end Go.Z
namespace Go.Z
open Go Go.Abs Go.W
def fO {α:Type}(l:Option (List α))(i:Int)(g:α→Option α):Option (Option (List α)):=
 if(l.getD []).length≤1073741824∧0≤i then(match(l.getD [])[i.toNat]? with
  |some x=>(match g x with
   |some y=>I (I ((l.getD []).set i.toNat y))
   |none=>Ev)
  |none=>Ev)else Ev
theorem yC {α:Type}{l:Option (List α)}{i:Int}{g:α→Option α}{r}(h:fO l i g=I r):∃(n:Nat) (x y:α),i=(n:Int)∧(l.getD []).length≤1073741824∧(l.getD [])[n]?=I x∧g x=I y∧r=I ((l.getD []).set n y):=by
 unfold fO at h
 split at h
 ·rename_i hc
  split at h
  ·rename_i x hx
   split at h
   ·rename_i y hy
    cases h
    exact⟨i.toNat,x,y,(Int.toNat_of_nonneg hc.2).symm,hc.1,hx,hy,rfl⟩
   ·cases h
  ·cases h
 ·cases h
theorem V5 {l r:Option (List qn)}{i:Int}{g:qn→Option qn}{j:Nat}{caps:List qa}(du:∀(n:Nat) (x y:qn),(l.getD [])[n]?=I x→g x=I y→∃cs,zg pr (X pr) j (.ptr 0 (n*4)::caps) [.cells (bz zu (l.getD []))]=I (.az [],Eh,[.cells cs])∧cs.map (·.1)=yv zu ((l.getD []).set n y))(h:fO l i g=I r):jz pr (X pr) 178 [sl 4 zu l,Iv i,.fn (.func j) [] caps]=I (sl 4 zu r,Eh):=by
 obtain⟨n,x,y,rfl,hl,hx,hy,rfl⟩:=yC h
 obtain⟨cs,h1,h2⟩:=du n x y hx hy
 exact jyl hl (Eo.1 hx).1 h1 h2
theorem V6 {l r:Option (List qj)}{i:Int}{g:qj→Option qj}{j:Nat}{caps:List qa}(du:∀(n:Nat) (x y:qj),(l.getD [])[n]?=I x→g x=I y→∃cs,zg pr (X pr) j (.ptr 0 (n*5)::caps) [.cells (bz z8 (l.getD []))]=I (.az [],Eh,[.cells cs])∧cs.map (·.1)=yv z8 ((l.getD []).set n y))(h:fO l i g=I r):jz pr (X pr) 185 [sl 5 z8 l,Iv i,.fn (.func j) [] caps]=I (sl 5 z8 r,Eh):=by
 obtain⟨n,x,y,rfl,hl,hx,hy,rfl⟩:=yC h
 obtain⟨cs,h1,h2⟩:=du n x y hx hy
 exact j2o hl (Eo.1 hx).1 h1 h2
theorem Es {l r:Option (List qe)}{i:Int}{g:qe→Option qe}{j:Nat}{caps:List qa}(du:∀(n:Nat) (x y:qe),(l.getD [])[n]?=I x→g x=I y→∃cs,zg pr (X pr) j (.ptr 0 (n*8)::caps) [.cells (bz bf (l.getD []))]=I (.az [],Eh,[.cells cs])∧cs.map (·.1)=yv bf ((l.getD []).set n y))(h:fO l i g=I r):jz pr (X pr) 189 [sl 8 bf l,Iv i,.fn (.func j) [] caps]=I (sl 8 bf r,Eh):=by
 obtain⟨n,x,y,rfl,hl,hx,hy,rfl⟩:=yC h
 obtain⟨cs,h1,h2⟩:=du n x y hx hy
 exact j1g hl (Eo.1 hx).1 h1 h2
theorem j5n {l r:Option (List qk)}{i:Int}{g:qk→Option qk}{j:Nat}{caps:List qa}(du:∀(n:Nat) (x y:qk),(l.getD [])[n]?=I x→g x=I y→∃cs,zg pr (X pr) j (.ptr 0 (n*2)::caps) [.cells (bz aV (l.getD []))]=I (.az [],Eh,[.cells cs])∧cs.map (·.1)=yv aV ((l.getD []).set n y))(h:fO l i g=I r):jz pr (X pr) 237 [sl 2 aV l,Iv i,.fn (.func j) [] caps]=I (sl 2 aV r,Eh):=by
 obtain⟨n,x,y,rfl,hl,hx,hy,rfl⟩:=yC h
 obtain⟨cs,h1,h2⟩:=du n x y hx hy
 exact j36 hl (Eo.1 hx).1 h1 h2
theorem j5u {l r:Option (List qi)}{i:Int}{g:qi→Option qi}{j:Nat}{caps:List qa}(du:∀(n:Nat) (x y:qi),(l.getD [])[n]?=I x→g x=I y→∃cs,zg pr (X pr) j (.ptr 0 (n*3)::caps) [.cells (bz zz (l.getD []))]=I (.az [],Eh,[.cells cs])∧cs.map (·.1)=yv zz ((l.getD []).set n y))(h:fO l i g=I r):jz pr (X pr) 241 [sl 3 zz l,Iv i,.fn (.func j) [] caps]=I (sl 3 zz r,Eh):=by
 obtain⟨n,x,y,rfl,hl,hx,hy,rfl⟩:=yC h
 obtain⟨cs,h1,h2⟩:=du n x y hx hy
 exact jzb hl (Eo.1 hx).1 h1 h2
theorem j2u {l r:Option (List qk)}{i:Int}{g:qk→Option qk}{j:Nat}{caps:List qa}(du:∀(n:Nat) (x y:qk),(l.getD [])[n]?=I x→g x=I y→∃cs,zg pr (X pr) j (.ptr 0 (n*2)::caps) [.cells (bz aV (l.getD []))]=I (.az [],Eh,[.cells cs])∧cs.map (·.1)=yv aV ((l.getD []).set n y))(h:fO l i g=I r):jz pr (X pr) 248 [sl 2 aV l,Iv i,.fn (.func j) [] caps]=I (sl 2 aV r,Eh):=by
 obtain⟨n,x,y,rfl,hl,hx,hy,rfl⟩:=yC h
 obtain⟨cs,h1,h2⟩:=du n x y hx hy
 exact jyk hl (Eo.1 hx).1 h1 h2
theorem zdh {l:List qj}{i:Nat}{x:qj}(hx:l[i]?=I x):zg pr (X pr) 198 [.ptr 0 (i*5)] [.cells (bz z8 l)]=I (.az [],Eh,[.cells (bz z8 (l.set i { x with held:=E6 }))]):=by
 rw[zh (show pr.bH 198=I rE from rfl) (by simp)]
 have st:yi (bz z8 l) (i*5+4) [.bool E6]=I (bz z8 (l.set i { x with held:=E6 })):=lW (o:=4) fR.len hx (El rfl) rfl rfl
 simp only[go_sem,seval,rE,st]<;>rfl
def Ve (l:Option (List qj))(i:Int):Option (Option (List qj)):=fO l i fun x=>I { x with held:=E6 }
theorem jir {l:Option (List qj)}{i:Int}{r}(h:Ve l i=I r):jz pr (X pr) 185 [sl 5 z8 l,Iv i,.fn (.func 198) [] []]=I (sl 5 z8 r,Eh):=
 V6 (fun n x y hx hy=>by cases hy;exact⟨_,zdh hx,kz⟩) h
theorem zd5 {l:List qj}{i:Nat}{x:qj}(hx:l[i]?=I x):zg pr (X pr) 199 [.ptr 0 (i*5)] [.cells (bz z8 l)]=I (.az [],Eh,[.cells (bz z8 (l.set i { x with held:=Eh }))]):=by
 rw[zh (show pr.bH 199=I rF from rfl) (by simp)]
 have st:yi (bz z8 l) (i*5+4) [.bool Eh]=I (bz z8 (l.set i { x with held:=Eh })):=lW (o:=4) fR.len hx (El rfl) rfl rfl
 simp only[go_sem,seval,rF,st]<;>rfl
def Vf (l:Option (List qj))(i:Int):Option (Option (List qj)):=fO l i fun x=>I { x with held:=Eh }
theorem jei {l:Option (List qj)}{i:Int}{r}(h:Vf l i=I r):jz pr (X pr) 185 [sl 5 z8 l,Iv i,.fn (.func 199) [] []]=I (sl 5 z8 r,Eh):=
 V6 (fun n x y hx hy=>by cases hy;exact⟨_,zd5 hx,kz⟩) h
theorem zbq {l:List qe}{i:Nat}{x:qe}(hx:l[i]?=I x):zg pr (X pr) 200 [.ptr 0 (i*8)] [.cells (bz bf l)]=I (.az [],Eh,[.cells (bz bf (l.set i { x with ar:=E6 }))]):=by
 rw[zh (show pr.bH 200=I rG from rfl) (by simp)]
 have st:yi (bz bf l) (i*8+6) [.bool E6]=I (bz bf (l.set i { x with ar:=E6 })):=lW (o:=6) dK.len hx (El rfl) rfl rfl
 simp only[go_sem,seval,rG,st]<;>rfl
def Vi (l:Option (List qe))(i:Int):Option (Option (List qe)):=fO l i fun x=>I { x with ar:=E6 }
theorem jdf {l:Option (List qe)}{i:Int}{r}(h:Vi l i=I r):jz pr (X pr) 189 [sl 8 bf l,Iv i,.fn (.func 200) [] []]=I (sl 8 bf r,Eh):=
 Es (fun n x y hx hy=>by cases hy;exact⟨_,zbq hx,kz⟩) h
theorem zhd {l:List qe}{i:Nat}{x:qe}(hx:l[i]?=I x):zg pr (X pr) 201 [.ptr 0 (i*8)] [.cells (bz bf l)]=I (.az [],Eh,[.cells (bz bf (l.set i { x with aj:=j9 .i64 (x.aj+1) }))]):=by
 rw[zh (show pr.bH 201=I rH from rfl) (by simp)]
 have st:yi (bz bf l) (i*8+7) [Iv (j9 .i64 (x.aj+1))]=I (bz bf (l.set i { x with aj:=j9 .i64 (x.aj+1) })):=lW (o:=7) dK.len hx (El rfl) rfl rfl
 have V7:kc (bz bf l) (i*8+7) 1=I [Iv x.aj]:=uM (o:=7) dK.len hx (by decide)
 simp only[go_sem,seval,rH,st,V7]<;>rfl
def Vj (l:Option (List qe))(i:Int):Option (Option (List qe)):=fO l i fun x=>I { x with aj:=j9 .i64 (x.aj+1) }
theorem jhf {l:Option (List qe)}{i:Int}{r}(h:Vj l i=I r):jz pr (X pr) 189 [sl 8 bf l,Iv i,.fn (.func 201) [] []]=I (sl 8 bf r,Eh):=
 Es (fun n x y hx hy=>by cases hy;exact⟨_,zhd hx,kz⟩) h
theorem zhu {l:List qe}{i:Nat}{x:qe}{v:Int}(hx:l[i]?=I x):zg pr (X pr) 195 [.ptr 0 (i*8),.ah (Iv v)] [.cells (bz bf l)]=I (.az [],Eh,[.cells (bz bf (l.set i { x with version:=v }))]):=by
 rw[zh (show pr.bH 195=I rJ from rfl) (by simp)]
 have st:yi (bz bf l) (i*8+2) [Iv v]=I (bz bf (l.set i { x with version:=v })):=lW (o:=2) dK.len hx (El rfl) rfl rfl
 simp only[go_sem,seval,rJ,st]<;>rfl
def Vh (l:Option (List qe))(i:Int)(v:Int):Option (Option (List qe)):=fO l i fun x=>I { x with version:=v }
theorem jh1 {l:Option (List qe)}{i:Int}{v:Int}{r}(h:Vh l i v=I r):jz pr (X pr) 189 [sl 8 bf l,Iv i,.fn (.func 195) [] [.ah (Iv v)]]=I (sl 8 bf r,Eh):=
 Es (fun n x y hx hy=>by cases hy;exact⟨_,zhu hx,kz⟩) h
theorem zb5 {l:List qe}{i:Nat}{x:qe}{b:qe}(hx:l[i]?=I x):zg pr (X pr) 196 [.ptr 0 (i*8),.ah (bf b)] [.cells (bz bf l)]=I (.az [],Eh,[.cells (bz bf (l.set i { x with partner:=b.name }))]):=by
 rw[zh (show pr.bH 196=I rK from rfl) (by simp)]
 have st:yi (bz bf l) (i*8+5) [.str b.name]=I (bz bf (l.set i { x with partner:=b.name })):=lW (o:=5) dK.len hx (El rfl) rfl rfl
 simp only[go_sem,seval,rK,st,bf]<;>rfl
def uV (l:Option (List qe))(i:Int)(b:qe):Option (Option (List qe)):=fO l i fun x=>I { x with partner:=b.name }
theorem jhy {l:Option (List qe)}{i:Int}{b:qe}{r}(h:uV l i b=I r):jz pr (X pr) 189 [sl 8 bf l,Iv i,.fn (.func 196) [] [.ah (bf b)]]=I (sl 8 bf r,Eh):=
 Es (fun n x y hx hy=>by cases hy;exact⟨_,zb5 hx,kz⟩) h
theorem zef {l:List qe}{i:Nat}{x:qe}{b:qe}(hx:l[i]?=I x):zg pr (X pr) 197 [.ptr 0 (i*8),.ah (bf b)] [.cells (bz bf l)]=I (.az [],Eh,[.cells (bz bf (l.set i { x with partner:=b.name }))]):=by
 rw[zh (show pr.bH 197=I rL from rfl) (by simp)]
 have st:yi (bz bf l) (i*8+5) [.str b.name]=I (bz bf (l.set i { x with partner:=b.name })):=lW (o:=5) dK.len hx (El rfl) rfl rfl
 simp only[go_sem,seval,rL,st,bf]<;>rfl
def uW (l:Option (List qe))(i:Int)(b:qe):Option (Option (List qe)):=fO l i fun x=>I { x with partner:=b.name }
theorem jfb {l:Option (List qe)}{i:Int}{b:qe}{r}(h:uW l i b=I r):jz pr (X pr) 189 [sl 8 bf l,Iv i,.fn (.func 197) [] [.ah (bf b)]]=I (sl 8 bf r,Eh):=
 Es (fun n x y hx hy=>by cases hy;exact⟨_,zef hx,kz⟩) h
theorem zcj {l:List qj}{i:Nat}{x:qj}{v:Int}(hx:l[i]?=I x):zg pr (X pr) 186 [.ptr 0 (i*5),.ah (Iv v)] [.cells (bz z8 l)]=I (.az [],Eh,[.cells (bz z8 (l.set i { x with left:=j9 .i64 (x.left-v) }))]):=by
 rw[zh (show pr.bH 186=I rM from rfl) (by simp)]
 have st:yi (bz z8 l) (i*5+3) [Iv (j9 .i64 (x.left-v))]=I (bz z8 (l.set i { x with left:=j9 .i64 (x.left-v) })):=lW (o:=3) fR.len hx (El rfl) rfl rfl
 have V7:kc (bz z8 l) (i*5+3) 1=I [Iv x.left]:=uM (o:=3) fR.len hx (by decide)
 simp only[go_sem,seval,rM,st,V7]<;>rfl
def Vl (l:Option (List qj))(i:Int)(v:Int):Option (Option (List qj)):=fO l i fun x=>I { x with left:=j9 .i64 (x.left-v) }
theorem jel {l:Option (List qj)}{i:Int}{v:Int}{r}(h:Vl l i v=I r):jz pr (X pr) 185 [sl 5 z8 l,Iv i,.fn (.func 186) [] [.ah (Iv v)]]=I (sl 5 z8 r,Eh):=
 V6 (fun n x y hx hy=>by cases hy;exact⟨_,zcj hx,kz⟩) h
theorem j8v {l:List qk}{i:Nat}{x:qk}{b:qk}(hx:l[i]?=I x):zg pr (X pr) 238 [.ptr 0 (i*2),.ah (aV b)] [.cells (bz aV l)]=I (.az [],Eh,[.cells (bz aV (l.set i b))]):=by
 rw[zh (show pr.bH 238=I rN from rfl) (by simp)]
 have st:yi (bz aV l) (i*2) [.str b.k,Iv b.n]=I (bz aV (l.set i b)):=lW (o:=0) oD.len hx (El rfl) rfl rfl
 simp only[go_sem,seval,rN,st,aV]<;>rfl
def jtc (l:Option (List qk))(i:Int)(b:qk):Option (Option (List qk)):=fO l i fun x=>I b
theorem jh9 {l:Option (List qk)}{i:Int}{b:qk}{r}(h:jtc l i b=I r):jz pr (X pr) 237 [sl 2 aV l,Iv i,.fn (.func 238) [] [.ah (aV b)]]=I (sl 2 aV r,Eh):=
 j5n (fun n x y hx hy=>by cases hy;exact⟨_,j8v hx,kz⟩) h
theorem j8m {l:List qi}{i:Nat}{x:qi}{b:qi}(hx:l[i]?=I x):zg pr (X pr) 242 [.ptr 0 (i*3),.ah (zz b)] [.cells (bz zz l)]=I (.az [],Eh,[.cells (bz zz (l.set i b))]):=by
 rw[zh (show pr.bH 242=I rO from rfl) (by simp)]
 have st:yi (bz zz l) (i*3) [.str b.k,Iv b.a,Iv b.b]=I (bz zz (l.set i b)):=lW (o:=0) rm.len hx (El rfl) rfl rfl
 simp only[go_sem,seval,rO,st,zz]<;>rfl
def jq4 (l:Option (List qi))(i:Int)(b:qi):Option (Option (List qi)):=fO l i fun x=>I b
theorem jhp {l:Option (List qi)}{i:Int}{b:qi}{r}(h:jq4 l i b=I r):jz pr (X pr) 241 [sl 3 zz l,Iv i,.fn (.func 242) [] [.ah (zz b)]]=I (sl 3 zz r,Eh):=
 j5u (fun n x y hx hy=>by cases hy;exact⟨_,j8m hx,kz⟩) h
theorem zgb {l:List qk}{i:Nat}{x:qk}{b:qk}(hx:l[i]?=I x):zg pr (X pr) 249 [.ptr 0 (i*2),.ah (aV b)] [.cells (bz aV l)]=I (.az [],Eh,[.cells (bz aV (l.set i b))]):=by
 rw[zh (show pr.bH 249=I rP from rfl) (by simp)]
 have st:yi (bz aV l) (i*2) [.str b.k,Iv b.n]=I (bz aV (l.set i b)):=lW (o:=0) oD.len hx (El rfl) rfl rfl
 simp only[go_sem,seval,rP,st,aV]<;>rfl
def jqe (l:Option (List qk))(i:Int)(b:qk):Option (Option (List qk)):=fO l i fun x=>I b
theorem jh7 {l:Option (List qk)}{i:Int}{b:qk}{r}(h:jqe l i b=I r):jz pr (X pr) 248 [sl 2 aV l,Iv i,.fn (.func 249) [] [.ah (aV b)]]=I (sl 2 aV r,Eh):=
 j2u (fun n x y hx hy=>by cases hy;exact⟨_,zgb hx,kz⟩) h
end Go.Z
namespace Go.Z
open Go Go.Abs Go.W
def f167 (a0:qk)(a1:List UInt8):Option Bool:=
 I (decide (a0.k=a1))
theorem V8 (hp:j8){a0:qk}{a1:List UInt8}{r}(h:f167 a0 a1=I r):zg pr (X pr) 167 [aN a0,.ah (.str a1)] hp=I (.bool r,Eh,hp):=by
 unfold f167 at h
 have hr:decide (a0.k=a1)=r:=I.inj h
 subst hr
 rw[zh (show pr.bH 167=I rQ from rfl) (by simp)]
 simp only[go_sem,seval,rQ]<;>rfl
def N1 (a0:Option (List qk))(ak:List UInt8)(s0:Int):Option (Int⊕(Int⊕Int)):=
 cond (decide (s0<((a0.getD []).length:Int)))
  (jx (zq (a0.getD []) s0) fun ei=>
  jx (f167 ei ak) fun dE=>
  cond dE
   (I (.inr (.inl s0)))
   (I (.inl (j9 .i64 (s0+1)))))
  (I (.inr (.inr s0)))
def HU (a0:Option (List qk))(ak:List UInt8)(hp:j8)(s0:Int):qh:=⟨[(0,sl 2 aV a0,Eh),(1,.fn (.func 167) [] [.ah (.str ak)],Eh),(7,Lv a0,Eh),(8,Iv s0,Eh)],hp⟩
def HW (a0:Option (List qk))(ak:List UInt8)(hp:j8):Int⊕Int→qo×qh
 | .inl d=>(.ret,⟨[(4,Iv d,Eh)],hp⟩)
 | .inr d=>(.exit 0,⟨[(0,sl 2 aV a0,Eh),(1,.fn (.func 167) [] [.ah (.str ak)],Eh),(7,Lv a0,Eh),(8,Iv d,Eh),(9,.bool Eh,Eh)],hp⟩)
theorem jlr (a0:Option (List qk))(ak:List UInt8)(hp:j8)(s0:Int)(r)(h:N1 a0 ak s0=I r):y5 pr lI (HU a0 ak hp) (HW a0 ak hp) s0 r:=by
 unfold N1 at h
 repeat' first|(replace h:=jy h;obtain⟨d,g,h⟩:=h;with_reducible first|replace g:=V8 hp g|skip)|(replace h:=j6 h;rcases h with⟨g,h⟩|⟨g,h⟩)|fail
 all_goals (cases h<;>(first|(refine z6 ?_;simp only[go_sem,seval,lI,HU,zn,HW, *]<;>rfl)|(refine yo ?_;simp only[go_sem,seval,lI,HU,zn,HW, *]<;>rfl)))
theorem jkg (a0:Option (List qk))(ak:List UInt8)(hp:j8){s0:Int}{d}(h:bj (N1 a0 ak) s0=I d):X pr (.loop lI) (HU a0 ak hp s0)=I (HW a0 ak hp d):=kl (jlr a0 ak hp) (fun d=>by rcases d with d|d<;>(intro hh;cases hh)) h
def Hj (a0:Option (List qk))(ak:List UInt8):Option Int:=
 jx (bj (N1 a0 ak) 0) fun d19=>match d19 with
  | .inl d21=>
   I d21
  | .inr d22=>
   I (-1)
theorem j1s (hp:j8){a0:Option (List qk)}{ak:List UInt8}{r}(h:Hj a0 ak=I r):zg pr (X pr) 235 [sl 2 aV a0,.fn (.func 167) [] [.ah (.str ak)]] hp=I (Iv r,Eh,hp):=by
 unfold Hj at h
 rw[zh (show pr.bH 235=I iy from rfl) (by simp)]
 repeat' first|(replace h:=jy h;obtain⟨d,g,h⟩:=h;with_reducible first|(replace g:=jkg a0 ak hp g;rcases d with d|d<;>dsimp only[HU,HW,ki]at g h)|skip)|(replace h:=j6 h;rcases h with⟨g,h⟩|⟨g,h⟩)|fail
 all_goals (cases h<;>(simp only[go_sem,seval,iy, *]<;>rfl))
def N2 (a0:Option (List qk))(ak:List UInt8)(s0:Int):Option (Int⊕(Int⊕Int)):=
 cond (decide (s0<((a0.getD []).length:Int)))
  (jx (zq (a0.getD []) s0) fun ei=>
  jx (f167 ei ak) fun dE=>
  cond dE
   (I (.inr (.inl s0)))
   (I (.inl (j9 .i64 (s0+1)))))
  (I (.inr (.inr s0)))
def HX (a0:Option (List qk))(ak:List UInt8)(s0:Int):qh:=⟨[(0,sl 2 aV a0,Eh),(1,.fn (.func 167) [] [.ah (.str ak)],Eh),(7,Lv a0,Eh),(8,Iv s0,Eh)],[]⟩
def HY (a0:Option (List qk))(ak:List UInt8):Int⊕Int→qo×qh
 | .inl d=>(.ret,⟨[(4,Iv d,Eh)],[]⟩)
 | .inr d=>(.exit 0,⟨[(0,sl 2 aV a0,Eh),(1,.fn (.func 167) [] [.ah (.str ak)],Eh),(7,Lv a0,Eh),(8,Iv d,Eh),(9,.bool Eh,Eh)],[]⟩)
theorem jko (a0:Option (List qk))(ak:List UInt8)(s0:Int)(r)(h:N2 a0 ak s0=I r):y5 pr lI (HX a0 ak) (HY a0 ak) s0 r:=by
 unfold N2 at h
 repeat' first|(replace h:=jy h;obtain⟨d,g,h⟩:=h;with_reducible first|replace g:=V8 [] g|skip)|(replace h:=j6 h;rcases h with⟨g,h⟩|⟨g,h⟩)|fail
 all_goals (cases h<;>(first|(refine z6 ?_;simp only[go_sem,seval,lI,HX,zn,HY, *]<;>rfl)|(refine yo ?_;simp only[go_sem,seval,lI,HX,zn,HY, *]<;>rfl)))
theorem jmi (a0:Option (List qk))(ak:List UInt8){s0:Int}{d}(h:bj (N2 a0 ak) s0=I d):X pr (.loop lI) (HX a0 ak s0)=I (HY a0 ak d):=kl (jko a0 ak) (fun d=>by rcases d with d|d<;>(intro hh;cases hh)) h
def Hf (a0:Option (List qk))(ak:List UInt8):Option Int:=
 jx (bj (N2 a0 ak) 0) fun d19=>match d19 with
  | .inl d21=>
   I d21
  | .inr d22=>
   I (-1)
theorem j3o {a0:Option (List qk)}{ak:List UInt8}{r}(h:Hf a0 ak=I r):jz pr (X pr) 235 [sl 2 aV a0,.fn (.func 167) [] [.ah (.str ak)]]=I (Iv r,Eh):=by
 unfold Hf at h
 refine yt iy ?_
 repeat' first|(replace h:=jy h;obtain⟨d,g,h⟩:=h;with_reducible first|(replace g:=jmi a0 ak g;rcases d with d|d<;>dsimp only[HX,HY,ki]at g h)|skip)|(replace h:=j6 h;rcases h with⟨g,h⟩|⟨g,h⟩)|fail
 all_goals (cases h<;>(simp only[go_sem,seval,iy, *];exact⟨_,rfl⟩))
def Hh (a0:Option (List qk))(ak:List UInt8):Option Bool:=
 jx (Hj a0 ak) fun v1=>
 I (decide (0≤v1))
theorem jzx {a0:Option (List qk)}{ak:List UInt8}{r}(h:Hh a0 ak=I r):jz pr (X pr) 168 [sl 2 aV a0,.fn (.func 167) [] [.ah (.str ak)]]=I (.bool r,Eh):=by
 unfold Hh at h
 refine yt kL ?_
 repeat' first|(replace h:=jy h;obtain⟨d,g,h⟩:=h;with_reducible first|replace g:=j1s [] g|skip)|(replace h:=j6 h;rcases h with⟨g,h⟩|⟨g,h⟩)|fail
 all_goals (cases h<;>(simp only[go_sem,seval,kL, *];exact⟨_,rfl⟩))
def f184 (a0:qk)(a1:qj):Option Bool:=
 I (decide (a0.k=a1.kind))
theorem j9l (hp:j8){a0:qk}{a1:qj}{r}(h:f184 a0 a1=I r):zg pr (X pr) 184 [aN a0,.ah (aL a1)] hp=I (.bool r,Eh,hp):=by
 unfold f184 at h
 have hr:decide (a0.k=a1.kind)=r:=I.inj h
 subst hr
 rw[zh (show pr.bH 184=I rR from rfl) (by simp)]
 simp only[go_sem,seval,rR]<;>rfl
def N3 (a0:Option (List qk))(ak:qj)(s0:Int):Option (Int⊕(Int⊕Int)):=
 cond (decide (s0<((a0.getD []).length:Int)))
  (jx (zq (a0.getD []) s0) fun ei=>
  jx (f184 ei ak) fun dE=>
  cond dE
   (I (.inr (.inl s0)))
   (I (.inl (j9 .i64 (s0+1)))))
  (I (.inr (.inr s0)))
def HZ (a0:Option (List qk))(ak:qj)(hp:j8)(s0:Int):qh:=⟨[(0,sl 2 aV a0,Eh),(1,.fn (.func 184) [] [.ah (aL ak)],Eh),(7,Lv a0,Eh),(8,Iv s0,Eh)],hp⟩
def H0 (a0:Option (List qk))(ak:qj)(hp:j8):Int⊕Int→qo×qh
 | .inl d=>(.ret,⟨[(4,Iv d,Eh)],hp⟩)
 | .inr d=>(.exit 0,⟨[(0,sl 2 aV a0,Eh),(1,.fn (.func 184) [] [.ah (aL ak)],Eh),(7,Lv a0,Eh),(8,Iv d,Eh),(9,.bool Eh,Eh)],hp⟩)
theorem jk8 (a0:Option (List qk))(ak:qj)(hp:j8)(s0:Int)(r)(h:N3 a0 ak s0=I r):y5 pr lI (HZ a0 ak hp) (H0 a0 ak hp) s0 r:=by
 unfold N3 at h
 repeat' first|(replace h:=jy h;obtain⟨d,g,h⟩:=h;with_reducible first|replace g:=j9l hp g|skip)|(replace h:=j6 h;rcases h with⟨g,h⟩|⟨g,h⟩)|fail
 all_goals (cases h<;>(first|(refine z6 ?_;simp only[go_sem,seval,lI,HZ,zn,H0, *]<;>rfl)|(refine yo ?_;simp only[go_sem,seval,lI,HZ,zn,H0, *]<;>rfl)))
theorem jmd (a0:Option (List qk))(ak:qj)(hp:j8){s0:Int}{d}(h:bj (N3 a0 ak) s0=I d):X pr (.loop lI) (HZ a0 ak hp s0)=I (H0 a0 ak hp d):=kl (jk8 a0 ak hp) (fun d=>by rcases d with d|d<;>(intro hh;cases hh)) h
def Hl (a0:Option (List qk))(ak:qj):Option Int:=
 jx (bj (N3 a0 ak) 0) fun d19=>match d19 with
  | .inl d21=>
   I d21
  | .inr d22=>
   I (-1)
theorem j29 (hp:j8){a0:Option (List qk)}{ak:qj}{r}(h:Hl a0 ak=I r):zg pr (X pr) 235 [sl 2 aV a0,.fn (.func 184) [] [.ah (aL ak)]] hp=I (Iv r,Eh,hp):=by
 unfold Hl at h
 rw[zh (show pr.bH 235=I iy from rfl) (by simp)]
 repeat' first|(replace h:=jy h;obtain⟨d,g,h⟩:=h;with_reducible first|(replace g:=jmd a0 ak hp g;rcases d with d|d<;>dsimp only[HZ,H0,ki]at g h)|skip)|(replace h:=j6 h;rcases h with⟨g,h⟩|⟨g,h⟩)|fail
 all_goals (cases h<;>(simp only[go_sem,seval,iy, *]<;>rfl))
def Hk (a0:Option (List qk))(ak:qj):Option Bool:=
 jx (Hl a0 ak) fun v1=>
 I (decide (0≤v1))
theorem jz0 {a0:Option (List qk)}{ak:qj}{r}(h:Hk a0 ak=I r):jz pr (X pr) 168 [sl 2 aV a0,.fn (.func 184) [] [.ah (aL ak)]]=I (.bool r,Eh):=by
 unfold Hk at h
 refine yt kL ?_
 repeat' first|(replace h:=jy h;obtain⟨d,g,h⟩:=h;with_reducible first|replace g:=j29 [] g|skip)|(replace h:=j6 h;rcases h with⟨g,h⟩|⟨g,h⟩)|fail
 all_goals (cases h<;>(simp only[go_sem,seval,kL, *];exact⟨_,rfl⟩))
def f172 (a0:qk)(lJ:List UInt8):Option Bool:=
 jx (f167 a0 lJ) fun v1=>
 I (!v1)
theorem j9b (hp:j8){a0:qk}{lJ:List UInt8}{r}(h:f172 a0 lJ=I r):zg pr (X pr) 172 [aN a0,.ah (.fn (.func 167) [] [.ah (.str lJ)])] hp=I (.bool r,Eh,hp):=by
 unfold f172 at h
 obtain⟨v1,h2,h⟩:=jy h
 have rS:zg pr (X pr) 167 [aN a0,.ah (.str lJ)] hp=I (.bool v1,Eh,hp):=V8 hp h2
 have hr:(!v1)=r:=I.inj h
 subst hr
 rw[zh (show pr.bH 172=I rT from rfl) (by simp)]
 simp only[go_sem,seval,rT,rS]<;>rfl
def Hg (a0:Option (List qk))(bP:List UInt8)(s0:(Option (List qk))×Int×Bool):Option (((Option (List qk))×Int×Bool)⊕(((Option (List qk))×Bool×Int))):=
 cond (decide (s0.2.1<((a0.getD []).length:Int)))
  (jx (zq (a0.getD []) s0.2.1) fun v20=>
  jx (f172 v20 bP) fun eJ=>
  cond eJ
   (cond s0.2.2
    (jx (bp s0.1 [v20]) fun dM=>
    I (.inl (dM,j9 .i64 (s0.2.1+1),E6)))
    (cond s0.1.isNone
     (jx (bp s0.1 [v20]) fun fV=>
     I (.inl (fV,j9 .i64 (s0.2.1+1),E6)))
     (Ev)))
   (I (.inl (s0.1,j9 .i64 (s0.2.1+1),s0.2.2))))
  (I (.inr (s0.1,s0.2.2,s0.2.1)))
def H2 (a0:Option (List qk))(bP:List UInt8)(hp:j8)(s0:(Option (List qk))×Int×Bool):qh:=⟨[(1,.fn (.func 172) [] [.ah (.fn (.func 167) [] [.ah (.str bP)])],Eh),(5,sl 2 aV s0.1,s0.2.2),(8,sl 2 aV a0,Eh),(9,Lv a0,Eh),(10,Iv s0.2.1,Eh)],hp⟩
def H3 (a0:Option (List qk))(bP:List UInt8)(hp:j8)(d:((Option (List qk))×Bool×Int)):qo×qh:=(.exit 0,⟨[(1,.fn (.func 172) [] [.ah (.fn (.func 167) [] [.ah (.str bP)])],Eh),(5,sl 2 aV d.1,d.2.1),(8,sl 2 aV a0,Eh),(9,Lv a0,Eh),(10,Iv d.2.2,Eh),(11,.bool Eh,Eh)],hp⟩)
theorem jta (a0:Option (List qk))(bP:List UInt8)(hp:j8)(s0:(Option (List qk))×Int×Bool)(r)(h:Hg a0 bP s0=I r):y5 pr H4 (H2 a0 bP hp) (H3 a0 bP hp) s0 r:=by
 unfold Hg at h
 repeat' first|(replace h:=jy h;obtain⟨d,g,h⟩:=h;with_reducible first|replace g:=j9b hp g|replace g:=AF g|skip)|(replace h:=j6 h;rcases h with⟨g,h⟩|⟨g,h⟩)|fail
 all_goals (cases h<;>(first|(refine z6 ?_;simp only[go_sem,seval,H4,H2,zn,H3, *]<;>rfl)|(refine yo ?_;simp only[go_sem,seval,H4,H2,zn,H3, *]<;>rfl)))
theorem jud (a0:Option (List qk))(bP:List UInt8)(hp:j8){s0:(Option (List qk))×Int×Bool}{d}(h:bj (Hg a0 bP) s0=I d):X pr (.loop H4) (H2 a0 bP hp s0)=I (H3 a0 bP hp d):=kl (jta a0 bP hp) (fun d hh=>by cases hh) h
def f171 (a0:Option (List qk))(bP:List UInt8):Option ((Option (List qk))×Bool):=
 jx (bj (Hg a0 bP) (Ev,0,Eh)) fun d31=>
 I (d31.1,d31.2.1)
theorem zdr (hp:j8){a0:Option (List qk)}{bP:List UInt8}{r}(h:f171 a0 bP=I r):zg pr (X pr) 171 [sl 2 aV a0,.fn (.func 172) [] [.ah (.fn (.func 167) [] [.ah (.str bP)])]] hp=I (sl 2 aV r.1,r.2,hp):=by
 unfold f171 at h
 rw[zh (show pr.bH 171=I rU from rfl) (by simp)]
 repeat' first|(replace h:=jy h;obtain⟨d,g,h⟩:=h;with_reducible first|(replace g:=jud a0 bP hp g;dsimp only[H2,H3,ki]at g h)|skip)|(replace h:=j6 h;rcases h with⟨g,h⟩|⟨g,h⟩)|fail
 all_goals (cases h<;>(simp only[go_sem,seval,rU, *]<;>rfl))
def f173 (a0:Option (List qk))(a1:qk)(dm:List UInt8):Option ((Option (List qk))×Bool):=
 jx (Hf a0 dm) fun v1=>
 cond (decide (0≤v1))
  (jx (jtc a0 v1 a1) fun v4=>
  I (v4,Eh))
  (jx (f239 a0 a1) fun v6=>
  I (v6,E6))
theorem zfi {a0:Option (List qk)}{a1:qk}{dm:List UInt8}{r}(h:f173 a0 a1 dm=I r):jz pr (X pr) 173 [sl 2 aV a0,aN a1,.fn (.func 167) [] [.ah (.str dm)]]=I (sl 2 aV r.1,r.2):=by
 unfold f173 at h
 refine eh rV ?_
 repeat' first|(replace h:=jy h;obtain⟨d,g,h⟩:=h; (with_reducible first|replace g:=j3o g|replace g:=jh9 g|replace g:=zfg g|skip);try dsimp only[ki,jN,Gn,kn,yp,z8,zu,bf,y8,vev,aV,zz,dp,aE,aR,aU,aL,aP,aD]at g)|(replace h:=j6 h;rcases h with⟨g,h⟩|⟨g,h⟩)|fail
 all_goals (cases h<;>(simp only[go_sem,seval,rV, *];exact⟨_,rfl⟩))
def f174 (a0:qi)(a1:qi):Option Bool:=
 I (decide (a0.k=a1.k))
theorem za2 (hp:j8){a0:qi}{a1:qi}{r}(h:f174 a0 a1=I r):zg pr (X pr) 174 [aT a0,.ah (aT a1)] hp=I (.bool r,Eh,hp):=by
 unfold f174 at h
 have hr:decide (a0.k=a1.k)=r:=I.inj h
 subst hr
 rw[zh (show pr.bH 174=I rW from rfl) (by simp)]
 simp only[go_sem,seval,rW]<;>rfl
def N4 (a0:Option (List qi))(ak:qi)(s0:Int):Option (Int⊕(Int⊕Int)):=
 cond (decide (s0<((a0.getD []).length:Int)))
  (jx (zq (a0.getD []) s0) fun ei=>
  jx (f174 ei ak) fun dE=>
  cond dE
   (I (.inr (.inl s0)))
   (I (.inl (j9 .i64 (s0+1)))))
  (I (.inr (.inr s0)))
def H5 (a0:Option (List qi))(ak:qi)(s0:Int):qh:=⟨[(0,sl 3 zz a0,Eh),(1,.fn (.func 174) [] [.ah (aT ak)],Eh),(7,Lv a0,Eh),(8,Iv s0,Eh)],[]⟩
def H6 (a0:Option (List qi))(ak:qi):Int⊕Int→qo×qh
 | .inl d=>(.ret,⟨[(4,Iv d,Eh)],[]⟩)
 | .inr d=>(.exit 0,⟨[(0,sl 3 zz a0,Eh),(1,.fn (.func 174) [] [.ah (aT ak)],Eh),(7,Lv a0,Eh),(8,Iv d,Eh),(9,.bool Eh,Eh)],[]⟩)
theorem jma (a0:Option (List qi))(ak:qi)(s0:Int)(r)(h:N4 a0 ak s0=I r):y5 pr wo (H5 a0 ak) (H6 a0 ak) s0 r:=by
 unfold N4 at h
 repeat' first|(replace h:=jy h;obtain⟨d,g,h⟩:=h;with_reducible first|replace g:=za2 [] g|skip)|(replace h:=j6 h;rcases h with⟨g,h⟩|⟨g,h⟩)|fail
 all_goals (cases h<;>(first|(refine z6 ?_;simp only[go_sem,seval,wo,H5,zn,H6, *]<;>rfl)|(refine yo ?_;simp only[go_sem,seval,wo,H5,zn,H6, *]<;>rfl)))
theorem jk3 (a0:Option (List qi))(ak:qi){s0:Int}{d}(h:bj (N4 a0 ak) s0=I d):X pr (.loop wo) (H5 a0 ak s0)=I (H6 a0 ak d):=kl (jma a0 ak) (fun d=>by rcases d with d|d<;>(intro hh;cases hh)) h
def xU (a0:Option (List qi))(ak:qi):Option Int:=
 jx (bj (N4 a0 ak) 0) fun d19=>match d19 with
  | .inl d21=>
   I d21
  | .inr d22=>
   I (-1)
theorem jjw {a0:Option (List qi)}{ak:qi}{r}(h:xU a0 ak=I r):jz pr (X pr) 240 [sl 3 zz a0,.fn (.func 174) [] [.ah (aT ak)]]=I (Iv r,Eh):=by
 unfold xU at h
 refine yt mX ?_
 repeat' first|(replace h:=jy h;obtain⟨d,g,h⟩:=h;with_reducible first|(replace g:=jk3 a0 ak g;rcases d with d|d<;>dsimp only[H5,H6,ki]at g h)|skip)|(replace h:=j6 h;rcases h with⟨g,h⟩|⟨g,h⟩)|fail
 all_goals (cases h<;>(simp only[go_sem,seval,mX, *];exact⟨_,rfl⟩))
def Hm (a0:Option (List qi))(ak:qi):Option Bool:=
 jx (xU a0 ak) fun v1=>
 I (decide (0≤v1))
theorem jvz {a0:Option (List qi)}{ak:qi}{r}(h:Hm a0 ak=I r):jz pr (X pr) 175 [sl 3 zz a0,.fn (.func 174) [] [.ah (aT ak)]]=I (.bool r,Eh):=by
 unfold Hm at h
 refine yt mY ?_
 repeat' first|(replace h:=jy h;obtain⟨d,g,h⟩:=h;with_reducible first|replace g:=jjw g|skip)|(replace h:=j6 h;rcases h with⟨g,h⟩|⟨g,h⟩)|fail
 all_goals (cases h<;>(simp only[go_sem,seval,mY, *];exact⟨_,rfl⟩))
def f177 (a0:Option (List qi))(a1:qi)(dm:qi):Option ((Option (List qi))×Bool):=
 jx (xU a0 dm) fun v1=>
 cond (decide (0≤v1))
  (jx (jq4 a0 v1 a1) fun v4=>
  I (v4,Eh))
  (jx (f243 a0 a1) fun v6=>
  I (v6,E6))
theorem j9e {a0:Option (List qi)}{a1:qi}{dm:qi}{r}(h:f177 a0 a1 dm=I r):jz pr (X pr) 177 [sl 3 zz a0,aT a1,.fn (.func 174) [] [.ah (aT dm)]]=I (sl 3 zz r.1,r.2):=by
 unfold f177 at h
 refine eh rX ?_
 repeat' first|(replace h:=jy h;obtain⟨d,g,h⟩:=h; (with_reducible first|replace g:=jjw g|replace g:=jhp g|replace g:=zch g|skip);try dsimp only[ki,jN,Gn,kn,yp,z8,zu,bf,y8,vev,aV,zz,dp,aE,aR,aU,aL,aP,aD]at g)|(replace h:=j6 h;rcases h with⟨g,h⟩|⟨g,h⟩)|fail
 all_goals (cases h<;>(simp only[go_sem,seval,rX, *];exact⟨_,rfl⟩))
def f192 (a0:qi)(a1:ql):Option Bool:=
 jx (zq (a1.names.getD []) 1) fun v1=>
 I (decide (a0.k=v1))
theorem zc1 (hp:j8){a0:qi}{a1:ql}{r}(h:f192 a0 a1=I r):zg pr (X pr) 192 [aT a0,.ah (aE a1)] hp=I (.bool r,Eh,hp):=by
 unfold f192 at h
 obtain⟨v1,h2,h⟩:=jy h
 have hr:decide (a0.k=v1)=r:=I.inj h
 subst hr
 rw[zh (show pr.bH 192=I rZ from rfl) (by simp)]
 simp only[go_sem,seval,rZ,ky h2]<;>rfl
def Hp (a0:Option (List qi))(ak:ql)(s0:Int):Option (Int⊕(Int⊕Int)):=
 cond (decide (s0<((a0.getD []).length:Int)))
  (jx (zq (a0.getD []) s0) fun ei=>
  jx (f192 ei ak) fun dE=>
  cond dE
   (I (.inr (.inl s0)))
   (I (.inl (j9 .i64 (s0+1)))))
  (I (.inr (.inr s0)))
def H7 (a0:Option (List qi))(ak:ql)(s0:Int):qh:=⟨[(0,sl 3 zz a0,Eh),(1,.fn (.func 192) [] [.ah (aE ak)],Eh),(7,Lv a0,Eh),(8,Iv s0,Eh)],[]⟩
def H8 (a0:Option (List qi))(ak:ql):Int⊕Int→qo×qh
 | .inl d=>(.ret,⟨[(4,Iv d,Eh)],[]⟩)
 | .inr d=>(.exit 0,⟨[(0,sl 3 zz a0,Eh),(1,.fn (.func 192) [] [.ah (aE ak)],Eh),(7,Lv a0,Eh),(8,Iv d,Eh),(9,.bool Eh,Eh)],[]⟩)
theorem jmx (a0:Option (List qi))(ak:ql)(s0:Int)(r)(h:Hp a0 ak s0=I r):y5 pr wo (H7 a0 ak) (H8 a0 ak) s0 r:=by
 unfold Hp at h
 repeat' first|(replace h:=jy h;obtain⟨d,g,h⟩:=h;with_reducible first|replace g:=zc1 [] g|skip)|(replace h:=j6 h;rcases h with⟨g,h⟩|⟨g,h⟩)|fail
 all_goals (cases h<;>(first|(refine z6 ?_;simp only[go_sem,seval,wo,H7,zn,H8, *]<;>rfl)|(refine yo ?_;simp only[go_sem,seval,wo,H7,zn,H8, *]<;>rfl)))
theorem jlf (a0:Option (List qi))(ak:ql){s0:Int}{d}(h:bj (Hp a0 ak) s0=I d):X pr (.loop wo) (H7 a0 ak s0)=I (H8 a0 ak d):=kl (jmx a0 ak) (fun d=>by rcases d with d|d<;>(intro hh;cases hh)) h
def Ho (a0:Option (List qi))(ak:ql):Option Int:=
 jx (bj (Hp a0 ak) 0) fun d19=>match d19 with
  | .inl d21=>
   I d21
  | .inr d22=>
   I (-1)
theorem j12 {a0:Option (List qi)}{ak:ql}{r}(h:Ho a0 ak=I r):jz pr (X pr) 240 [sl 3 zz a0,.fn (.func 192) [] [.ah (aE ak)]]=I (Iv r,Eh):=by
 unfold Ho at h
 refine yt mX ?_
 repeat' first|(replace h:=jy h;obtain⟨d,g,h⟩:=h;with_reducible first|(replace g:=jlf a0 ak g;rcases d with d|d<;>dsimp only[H7,H8,ki]at g h)|skip)|(replace h:=j6 h;rcases h with⟨g,h⟩|⟨g,h⟩)|fail
 all_goals (cases h<;>(simp only[go_sem,seval,mX, *];exact⟨_,rfl⟩))
def Hn (a0:Option (List qi))(ak:ql):Option Bool:=
 jx (Ho a0 ak) fun v1=>
 I (decide (0≤v1))
theorem j14 {a0:Option (List qi)}{ak:ql}{r}(h:Hn a0 ak=I r):jz pr (X pr) 175 [sl 3 zz a0,.fn (.func 192) [] [.ah (aE ak)]]=I (.bool r,Eh):=by
 unfold Hn at h
 refine yt mY ?_
 repeat' first|(replace h:=jy h;obtain⟨d,g,h⟩:=h;with_reducible first|replace g:=j12 g|skip)|(replace h:=j6 h;rcases h with⟨g,h⟩|⟨g,h⟩)|fail
 all_goals (cases h<;>(simp only[go_sem,seval,mY, *];exact⟨_,rfl⟩))
def f187 (a0:qk)(a1:qj):Option Bool:=
 I (decide (a0.k=a1.name))
theorem j9x (hp:j8){a0:qk}{a1:qj}{r}(h:f187 a0 a1=I r):zg pr (X pr) 187 [aN a0,.ah (aL a1)] hp=I (.bool r,Eh,hp):=by
 unfold f187 at h
 have hr:decide (a0.k=a1.name)=r:=I.inj h
 subst hr
 rw[zh (show pr.bH 187=I sd from rfl) (by simp)]
 simp only[go_sem,seval,sd]<;>rfl
def N5 (a0:Option (List qk))(ak:qj)(s0:Int):Option (Int⊕(Int⊕Int)):=
 cond (decide (s0<((a0.getD []).length:Int)))
  (jx (zq (a0.getD []) s0) fun ei=>
  jx (f187 ei ak) fun dE=>
  cond dE
   (I (.inr (.inl s0)))
   (I (.inl (j9 .i64 (s0+1)))))
  (I (.inr (.inr s0)))
def H9 (a0:Option (List qk))(ak:qj)(s0:Int):qh:=⟨[(0,sl 2 aV a0,Eh),(1,.fn (.func 187) [] [.ah (aL ak)],Eh),(7,Lv a0,Eh),(8,Iv s0,Eh)],[]⟩
def Ia (a0:Option (List qk))(ak:qj):Int⊕Int→qo×qh
 | .inl d=>(.ret,⟨[(4,Iv d,Eh)],[]⟩)
 | .inr d=>(.exit 0,⟨[(0,sl 2 aV a0,Eh),(1,.fn (.func 187) [] [.ah (aL ak)],Eh),(7,Lv a0,Eh),(8,Iv d,Eh),(9,.bool Eh,Eh)],[]⟩)
theorem jt4 (a0:Option (List qk))(ak:qj)(s0:Int)(r)(h:N5 a0 ak s0=I r):y5 pr Ib (H9 a0 ak) (Ia a0 ak) s0 r:=by
 unfold N5 at h
 repeat' first|(replace h:=jy h;obtain⟨d,g,h⟩:=h;with_reducible first|replace g:=j9x [] g|skip)|(replace h:=j6 h;rcases h with⟨g,h⟩|⟨g,h⟩)|fail
 all_goals (cases h<;>(first|(refine z6 ?_;simp only[go_sem,seval,Ib,H9,zn,Ia, *]<;>rfl)|(refine yo ?_;simp only[go_sem,seval,Ib,H9,zn,Ia, *]<;>rfl)))
theorem jo7 (a0:Option (List qk))(ak:qj){s0:Int}{d}(h:bj (N5 a0 ak) s0=I d):X pr (.loop Ib) (H9 a0 ak s0)=I (Ia a0 ak d):=kl (jt4 a0 ak) (fun d=>by rcases d with d|d<;>(intro hh;cases hh)) h
def f188 (a0:Option (List qk))(ak:qj):Option Int:=
 jx (bj (N5 a0 ak) 0) fun d19=>match d19 with
  | .inl d21=>
   I d21
  | .inr d22=>
   I (-1)
theorem joh {a0:Option (List qk)}{ak:qj}{r}(h:f188 a0 ak=I r):jz pr (X pr) 188 [sl 2 aV a0,.fn (.func 187) [] [.ah (aL ak)]]=I (Iv r,Eh):=by
 unfold f188 at h
 refine yt sg ?_
 repeat' first|(replace h:=jy h;obtain⟨d,g,h⟩:=h;with_reducible first|(replace g:=jo7 a0 ak g;rcases d with d|d<;>dsimp only[H9,Ia,ki]at g h)|skip)|(replace h:=j6 h;rcases h with⟨g,h⟩|⟨g,h⟩)|fail
 all_goals (cases h<;>(simp only[go_sem,seval,sg, *];exact⟨_,rfl⟩))
def f191 (a0:Option (List qk))(a1:qk)(dm:qj):Option ((Option (List qk))×Bool):=
 jx (f188 a0 dm) fun v1=>
 cond (decide (0≤v1))
  (jx (jqe a0 v1 a1) fun v4=>
  I (v4,Eh))
  (jx (f250 a0 a1) fun v6=>
  I (v6,E6))
theorem zcw {a0:Option (List qk)}{a1:qk}{dm:qj}{r}(h:f191 a0 a1 dm=I r):jz pr (X pr) 191 [sl 2 aV a0,aN a1,.fn (.func 187) [] [.ah (aL dm)]]=I (sl 2 aV r.1,r.2):=by
 unfold f191 at h
 refine eh si ?_
 repeat' first|(replace h:=jy h;obtain⟨d,g,h⟩:=h; (with_reducible first|replace g:=joh g|replace g:=jh7 g|replace g:=zdc g|skip);try dsimp only[ki,jN,Gn,kn,yp,z8,zu,bf,y8,vev,aV,zz,dp,aE,aR,aU,aL,aP,aD]at g)|(replace h:=j6 h;rcases h with⟨g,h⟩|⟨g,h⟩)|fail
 all_goals (cases h<;>(simp only[go_sem,seval,si, *];exact⟨_,rfl⟩))
end Go.Z
end
