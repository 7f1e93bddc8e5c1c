/- Chapter 10. -/
import Derived.Test.YtfopaakmgogpiaaGreatDoorW6
import Derived.Test.YtfopaakmgogpiaaGreatDoorW4
set_option maxRecDepth 100000
noncomputable section
open Option renaming some→I,none→E4
open Bool renaming false→En,true→Gk,and_self→Hd
open Nat renaming le_of_ble_eq_true→E1,beq_refl→Gl,ble_eq_true_of_le→Gm,beq→Gn,blt_eq→Hb
open List renaming replicate→E2,getElem?_eq_some_iff→E3,length_set→E6,take_of_length_le→Gp,drop_eq_nil_of_le→Gq,length_map→G2,nil_append→Ha,map→H7
namespace Go.Z
open Go Go.Abs Go.W
section
variable {p:qt}{xc:XC}{h0:Nat}{al:Option (List Nat)}{e:Env}{h:j8}{α:Type}
structure ou (f:α→qa)(sz:Nat):Prop where
 len:∀x,(f x).flat.length=sz
 sc:∀x,(f x).flat.all ze=Gk
 ag:∀x,f x=.agg (f x).flat
 ref:∀x,(f x).flat.any LZ=Gk
 big:1<sz
variable {f:α→qa}{sz:Nat}
theorem jdm (E:ou f sz)(l:List α):(yu f l).all ze=Gk:=by
 induction l with
 |nil=>rfl
 |cons x l ih=>rw[vt,List.all_append,E.sc,ih];rfl
theorem q6w (E:ou f sz):∀(l:List α),lN sz l.length (yu f l)=l.map f
 | []=>rfl
 |x::l=>by
  have hb:Gn sz 1=En:=by
   have:=E.big
   cases h:Gn sz 1 with
   |false=>rfl
   |true=>have:=Nat.eq_of_beq_eq_true h;omega
  have hl:=E.len x
  show(bif Gn sz 1 then(yu f (x::l)).headD .undef else .agg ((yu f (x::l)).take sz))::lN sz l.length ((yu f (x::l)).drop sz)=_
  rw[hb,cond_false,vt,List.take_append_of_le_length (by omega),List.drop_append_of_le_length (by omega),Gp (by omega),Gq (by omega),Ha,q6w E l,←E.ag]
  rfl
theorem uN (E:ou f sz){l:List α}(hl:0<l.length){cs:List (qa×Bool)}(hc:cs.map (·.1)=yu f l):NH (I cs) 0 l.length=I (.list En sz (l.map f)):=by
 have dp:cs.length=l.length*sz:=by rw[←G2 (f:=(·.1)),hc,Gj E.len]
 have hdiv:cs.length / l.length=sz:=by rw[dp];exact Nat.mul_div_cancel_left _ hl
 have V6:cs.any (fun c=>LZ c.1)=Gk:=by
  cases l with
  |nil=>cases hl
  |cons x l=>
   have:(cs.map (·.1)).any LZ=Gk:=by rw[hc,vt,List.any_append,E.ref];rfl
   rw[List.any_map]at this
   exact this
 have hr:CU 0 l.length cs=Gk:=by
  have hb:Nat.blt 1 sz=Gk:=Hb.mpr E.big
  rw[CU,hdiv,hb,V6,dp,Gl,Gl];rfl
 unfold NH
 simp only[hr,cT,hdiv]
 rw[hc,q6w E]
theorem AX {r n V7:Nat}{zero:List qa}(hz:zero.length=sz)(hs:zero.all ze=Gk)(h1:0<sz)(hn:n≤1073741824)(hb:V7≤4096){h':j8}(hh:aJ h0 h r (.cells (cellsOf (E2 n zero).flatten))=I h'):
  uM h0 r sz V7 zero h (I (Iv (n:Int))) (I (Iv (n:Int)))=I ⟨.ms (h0+r) 0 n,En,E4,h'⟩:=by
 show(bif Gn n n&&Nat.ble n 1073741824&&Nat.ble V7 4096&&Gn zero.length sz&&Nat.blt 0 sz&&zero.all ze then _ else _)=_
 rw[Gl,Gm hn,Gm hb,hz,Gl,Hb.mpr h1,hs]
 simp only[Hd,cT,hh]
 rfl
theorem AY (E:ou f sz){b:Nat}{l:Option (List α)}{cs:List (qa×Bool)}(hb:h[b]?=I (.cells cs))(hc:cs.length=(l.getD []).length*sz)(df:yv h0 al b=Gk):
  vG h0 al sz h (I (.ms b 0 (l.getD []).length)) (I (sl sz f l))=I ⟨Lv l,En,E4,h.set b (.cells (bz f (l.getD [])))⟩:=by
 have kI:yl h b=I cs:=by rw[q53,hb];rfl
 have aX:=(E3.1 hb).1
 have cy:yK sz (l.getD []).length (sl sz f l)=I ((l.getD []).length,yu f (l.getD [])):=by
  cases l with
  |none=>simp[sl,yK,yu]
  |some l=>
   show(bif Gn sz sz||(l.map f).isEmpty then I (min (l.map f).length l.length,((l.map f).take l.length).flatMap qa.flat)else E4)=_
   rw[Gl,G2,Nat.min_self,Gp (by rw[G2];exact Nat.le_refl _)]
   rfl
 have zz:(yu f (l.getD [])).length=(l.getD []).length*sz:=Gj E.len _
 have bS:yi cs 0 (yu f (l.getD []))=I (bz f (l.getD [])):=by
  unfold yi
  rw[jdm E,zz,hc,Gm (by omega)]
  simp only[Hd,cT,List.take_zero,Ha]
  rw[Gq (by rw[hc];omega),List.append_nil]
  rfl
 have bm:yj h b (.cells (bz f (l.getD [])))=I (h.set b (.cells (bz f (l.getD [])))):=by
  simp only[yj,Hb.mpr aX,cT]
 show(bif yv h0 al b then(match yl h b with
   |some cs=>(match yK sz (l.getD []).length (sl sz f l)with
    |some (n,vs)=>(match yi cs 0 vs with
     |some dQ=>bif Gn vs.length (n*sz)then(match yj h b (.cells dQ)with
      |some h'=>val h' (Iv n)
      |none=>E4)else E4
     |none=>E4)
    |none=>E4)
   |none=>E4)else E4)=_
 rw[df,kI,cy]
 simp only[cT,bS,zz,Gl,bm]
 rfl
theorem uO {b n i:Nat}{k:IntKind}(hi:i<n):kL sz h (I (.ms b 0 n)) (I (.int k (i:Int)))=I ⟨.ptr b (i*sz),En,E4,h⟩:=by
 have:idx n (.int k (i:Int))=I i:=by rw[xb];exact Ud hi
 simp only[kL,this,Nat.zero_add]
 rfl
end
end Go.Z
set_option maxHeartbeats 4000000
namespace Go.Z
open Go Go.Abs Go.W
theorem fN:ou z8 5:=⟨fun _=>rfl,fun _=>rfl,fun _=>rfl,fun _=>rfl,by omega⟩
theorem ov:ou aS 2:=⟨fun _=>rfl,fun _=>rfl,fun _=>rfl,fun _=>rfl,by omega⟩
theorem qT:ou z6 3:=⟨fun _=>rfl,fun _=>rfl,fun _=>rfl,fun _=>rfl,by omega⟩
theorem cg:ou zt 4:=⟨fun _=>rfl,fun _=>by simp only[go_sem,seval,q75]<;>simp only[List.all,go_sem],fun _=>rfl,fun _=>rfl,by omega⟩
theorem dE:ou bh 8:=⟨fun _=>rfl,fun _=>by simp only[go_sem,seval,jdw]<;>simp only[List.all,go_sem],fun _=>rfl,fun _=>rfl,by omega⟩
theorem zgn {j:Nat}{caps:List qa}{l:Option (List qi)}{i:Nat}{cs:List (qa×Bool)}(hlen:(l.getD []).length≤1073741824)(hi:i<(l.getD []).length)(dp:zg pr (X pr) j (.ptr 0 (i*4)::caps) [.cells (bz zt (l.getD []))]=I (.aC [],En,[.cells cs])):zg pr (X pr) 178 [sl 4 zt l,Iv (i:Int),.fn (.func j) [] caps] []=I (.ms 0 0 ((l.getD []).length),En,[.cells cs]):=by
 rw[zh (show pr.bL 178=I qU from rfl) (by simp)]
 have ox:uM 0 0 4 88 [(.str []),(Nl),(Nl),(Nl)] [.hole] (I (Lv l)) (I (Lv l))=I ⟨.ms 0 0 (l.getD []).length,En,E4,[.cells (cellsOf (E2 (l.getD []).length [(.str []),(Nl),(Nl),(Nl)]).flatten)]⟩:=by apply AX<;>first|exact hlen|rfl|decide
 have oy:vG 1 E4 4 [.cells (cellsOf (E2 (l.getD []).length [(.str []),(Nl),(Nl),(Nl)]).flatten)] (I (.ms 0 0 (l.getD []).length)) (I (sl 4 zt l))=I ⟨Lv l,En,E4,[.cells (bz zt (l.getD []))]⟩:=AY cg rfl (by simp[cellsOf]) rfl
 simp only[go_sem,seval,qU,ox,oy,uO hi,dp]<;>rfl
theorem j3b{y:qi} {j:Nat} {caps:List qa} {l:Option (List qi)} {i:Nat} {cs:List (qa×Bool)} (hlen:(l.getD []).length≤1073741824) (hi:i<(l.getD []).length) (dp:zg pr (X pr) j (.ptr 0 (i*4)::caps) [.cells (bz zt (l.getD []))]=I (.aC [],En,[.cells cs])) (hcs:cs.map (·.1)=yu zt ((l.getD []).set i y)):jz pr (X pr) 178 [sl 4 zt l,Iv (i:Int),.fn (.func j) [] caps]=I (sl 4 zt (I ((l.getD []).set i y)),En):=by
 have hl:((l.getD []).set i y).length=(l.getD []).length:=E6
 have hz:aB [.cells cs] (.ms 0 0 ((l.getD []).length))=I (sl 4 zt (I ((l.getD []).set i y))):=by
  rw[D3,←hl]
  exact uN cg (by rw[hl];omega) hcs
 exact ky rfl (zgn hlen hi dp) hz (by first|rfl|simp only[go_sem,seval])
theorem zgw {j:Nat}{caps:List qa}{l:Option (List qj)}{i:Nat}{cs:List (qa×Bool)}(hlen:(l.getD []).length≤1073741824)(hi:i<(l.getD []).length)(dp:zg pr (X pr) j (.ptr 0 (i*5)::caps) [.cells (bz z8 (l.getD []))]=I (.aC [],En,[.cells cs])):zg pr (X pr) 185 [sl 5 z8 l,Iv (i:Int),.fn (.func j) [] caps] []=I (.ms 0 0 ((l.getD []).length),En,[.cells cs]):=by
 rw[zh (show pr.bL 185=I qV from rfl) (by simp)]
 have ox:uM 0 0 5 56 [(.str []),(.str []),(Iv 0),(Iv 0),(.bool En)] [.hole] (I (Lv l)) (I (Lv l))=I ⟨.ms 0 0 (l.getD []).length,En,E4,[.cells (cellsOf (E2 (l.getD []).length [(.str []),(.str []),(Iv 0),(Iv 0),(.bool En)]).flatten)]⟩:=by apply AX<;>first|exact hlen|rfl|decide
 have oy:vG 1 E4 5 [.cells (cellsOf (E2 (l.getD []).length [(.str []),(.str []),(Iv 0),(Iv 0),(.bool En)]).flatten)] (I (.ms 0 0 (l.getD []).length)) (I (sl 5 z8 l))=I ⟨Lv l,En,E4,[.cells (bz z8 (l.getD []))]⟩:=AY fN rfl (by simp[cellsOf]) rfl
 simp only[go_sem,seval,qV,ox,oy,uO hi,dp]<;>rfl
theorem j6q{y:qj} {j:Nat} {caps:List qa} {l:Option (List qj)} {i:Nat} {cs:List (qa×Bool)} (hlen:(l.getD []).length≤1073741824) (hi:i<(l.getD []).length) (dp:zg pr (X pr) j (.ptr 0 (i*5)::caps) [.cells (bz z8 (l.getD []))]=I (.aC [],En,[.cells cs])) (hcs:cs.map (·.1)=yu z8 ((l.getD []).set i y)):jz pr (X pr) 185 [sl 5 z8 l,Iv (i:Int),.fn (.func j) [] caps]=I (sl 5 z8 (I ((l.getD []).set i y)),En):=by
 have hl:((l.getD []).set i y).length=(l.getD []).length:=E6
 have hz:aB [.cells cs] (.ms 0 0 ((l.getD []).length))=I (sl 5 z8 (I ((l.getD []).set i y))):=by
  rw[D3,←hl]
  exact uN fN (by rw[hl];omega) hcs
 exact ky rfl (zgw hlen hi dp) hz (by first|rfl|simp only[go_sem,seval])
theorem zch {j:Nat}{caps:List qa}{l:Option (List qe)}{i:Nat}{cs:List (qa×Bool)}(hlen:(l.getD []).length≤1073741824)(hi:i<(l.getD []).length)(dp:zg pr (X pr) j (.ptr 0 (i*8)::caps) [.cells (bz bh (l.getD []))]=I (.aC [],En,[.cells cs])):zg pr (X pr) 189 [sl 8 bh l,Iv (i:Int),.fn (.func j) [] caps] []=I (.ms 0 0 ((l.getD []).length),En,[.cells cs]):=by
 rw[zh (show pr.bL 189=I mU from rfl) (by simp)]
 have ox:uM 0 0 8 120 [(.str []),(.str []),(Iv 0),(Nl),(Nl),(.str []),(.bool En),(Iv 0)] [.hole] (I (Lv l)) (I (Lv l))=I ⟨.ms 0 0 (l.getD []).length,En,E4,[.cells (cellsOf (E2 (l.getD []).length [(.str []),(.str []),(Iv 0),(Nl),(Nl),(.str []),(.bool En),(Iv 0)]).flatten)]⟩:=by apply AX<;>first|exact hlen|rfl|decide
 have oy:vG 1 E4 8 [.cells (cellsOf (E2 (l.getD []).length [(.str []),(.str []),(Iv 0),(Nl),(Nl),(.str []),(.bool En),(Iv 0)]).flatten)] (I (.ms 0 0 (l.getD []).length)) (I (sl 8 bh l))=I ⟨Lv l,En,E4,[.cells (bz bh (l.getD []))]⟩:=AY dE rfl (by simp[cellsOf]) rfl
 simp only[go_sem,seval,mU,ox,oy,uO hi,dp]<;>rfl
theorem jw0{y:qe} {j:Nat} {caps:List qa} {l:Option (List qe)} {i:Nat} {cs:List (qa×Bool)} (hlen:(l.getD []).length≤1073741824) (hi:i<(l.getD []).length) (dp:zg pr (X pr) j (.ptr 0 (i*8)::caps) [.cells (bz bh (l.getD []))]=I (.aC [],En,[.cells cs])) (hcs:cs.map (·.1)=yu bh ((l.getD []).set i y)):jz pr (X pr) 189 [sl 8 bh l,Iv (i:Int),.fn (.func j) [] caps]=I (sl 8 bh (I ((l.getD []).set i y)),En):=by
 have hl:((l.getD []).set i y).length=(l.getD []).length:=E6
 have hz:aB [.cells cs] (.ms 0 0 ((l.getD []).length))=I (sl 8 bh (I ((l.getD []).set i y))):=by
  rw[D3,←hl]
  exact uN dE (by rw[hl];omega) hcs
 exact ky rfl (zch hlen hi dp) hz (by first|rfl|simp only[go_sem,seval])
theorem jjy {b0 b1 b2 b3 b4:qn}{j:Nat}{caps:List qa}{l:Option (List qe)}{i:Nat}{cs:List (qa×Bool)}(hlen:(l.getD []).length≤1073741824)(hi:i<(l.getD []).length)(dp:zg pr (X pr) j (.ptr 5 (i*8)::caps) [b0,b1,b2,b3,b4,.cells (bz bh (l.getD []))]=I (.aC [],En,[b0,b1,b2,b3,b4,.cells cs])):zg pr (X pr) 189 [sl 8 bh l,Iv (i:Int),.fn (.func j) [] caps] [b0,b1,b2,b3,b4]=I (.ms 5 0 ((l.getD []).length),En,[b0,b1,b2,b3,b4,.cells cs]):=by
 rw[zh (show pr.bL 189=I mU from rfl) (by simp)]
 have ox:uM 5 0 8 120 [(.str []),(.str []),(Iv 0),(Nl),(Nl),(.str []),(.bool En),(Iv 0)] [b0,b1,b2,b3,b4,.hole] (I (Lv l)) (I (Lv l))=I ⟨.ms 5 0 (l.getD []).length,En,E4,[b0,b1,b2,b3,b4,.cells (cellsOf (E2 (l.getD []).length [(.str []),(.str []),(Iv 0),(Nl),(Nl),(.str []),(.bool En),(Iv 0)]).flatten)]⟩:=by apply AX<;>first|exact hlen|rfl|decide
 have oy:vG 6 E4 8 [b0,b1,b2,b3,b4,.cells (cellsOf (E2 (l.getD []).length [(.str []),(.str []),(Iv 0),(Nl),(Nl),(.str []),(.bool En),(Iv 0)]).flatten)] (I (.ms 5 0 (l.getD []).length)) (I (sl 8 bh l))=I ⟨Lv l,En,E4,[b0,b1,b2,b3,b4,.cells (bz bh (l.getD []))]⟩:=AY dE rfl (by simp[cellsOf]) rfl
 simp only[go_sem,seval,mU,ox,oy,uO hi,dp]<;>rfl
theorem zfr {j:Nat}{caps:List qa}{l:Option (List ql)}{i:Nat}{cs:List (qa×Bool)}(hlen:(l.getD []).length≤1073741824)(hi:i<(l.getD []).length)(dp:zg pr (X pr) j (.ptr 0 (i*2)::caps) [.cells (bz aS (l.getD []))]=I (.aC [],En,[.cells cs])):zg pr (X pr) 237 [sl 2 aS l,Iv (i:Int),.fn (.func j) [] caps] []=I (.ms 0 0 ((l.getD []).length),En,[.cells cs]):=by
 rw[zh (show pr.bL 237=I qW from rfl) (by simp)]
 have ox:uM 0 0 2 24 [(.str []),(Iv 0)] [.hole] (I (Lv l)) (I (Lv l))=I ⟨.ms 0 0 (l.getD []).length,En,E4,[.cells (cellsOf (E2 (l.getD []).length [(.str []),(Iv 0)]).flatten)]⟩:=by apply AX<;>first|exact hlen|rfl|decide
 have oy:vG 1 E4 2 [.cells (cellsOf (E2 (l.getD []).length [(.str []),(Iv 0)]).flatten)] (I (.ms 0 0 (l.getD []).length)) (I (sl 2 aS l))=I ⟨Lv l,En,E4,[.cells (bz aS (l.getD []))]⟩:=AY ov rfl (by simp[cellsOf]) rfl
 simp only[go_sem,seval,qW,ox,oy,uO hi,dp]<;>rfl
theorem j22{y:ql} {j:Nat} {caps:List qa} {l:Option (List ql)} {i:Nat} {cs:List (qa×Bool)} (hlen:(l.getD []).length≤1073741824) (hi:i<(l.getD []).length) (dp:zg pr (X pr) j (.ptr 0 (i*2)::caps) [.cells (bz aS (l.getD []))]=I (.aC [],En,[.cells cs])) (hcs:cs.map (·.1)=yu aS ((l.getD []).set i y)):jz pr (X pr) 237 [sl 2 aS l,Iv (i:Int),.fn (.func j) [] caps]=I (sl 2 aS (I ((l.getD []).set i y)),En):=by
 have hl:((l.getD []).set i y).length=(l.getD []).length:=E6
 have hz:aB [.cells cs] (.ms 0 0 ((l.getD []).length))=I (sl 2 aS (I ((l.getD []).set i y))):=by
  rw[D3,←hl]
  exact uN ov (by rw[hl];omega) hcs
 exact ky rfl (zfr hlen hi dp) hz (by first|rfl|simp only[go_sem,seval])
theorem zau {j:Nat}{caps:List qa}{l:Option (List qk)}{i:Nat}{cs:List (qa×Bool)}(hlen:(l.getD []).length≤1073741824)(hi:i<(l.getD []).length)(dp:zg pr (X pr) j (.ptr 0 (i*3)::caps) [.cells (bz z6 (l.getD []))]=I (.aC [],En,[.cells cs])):zg pr (X pr) 241 [sl 3 z6 l,Iv (i:Int),.fn (.func j) [] caps] []=I (.ms 0 0 ((l.getD []).length),En,[.cells cs]):=by
 rw[zh (show pr.bL 241=I qX from rfl) (by simp)]
 have ox:uM 0 0 3 32 [(.str []),(Iv 0),(Iv 0)] [.hole] (I (Lv l)) (I (Lv l))=I ⟨.ms 0 0 (l.getD []).length,En,E4,[.cells (cellsOf (E2 (l.getD []).length [(.str []),(Iv 0),(Iv 0)]).flatten)]⟩:=by apply AX<;>first|exact hlen|rfl|decide
 have oy:vG 1 E4 3 [.cells (cellsOf (E2 (l.getD []).length [(.str []),(Iv 0),(Iv 0)]).flatten)] (I (.ms 0 0 (l.getD []).length)) (I (sl 3 z6 l))=I ⟨Lv l,En,E4,[.cells (bz z6 (l.getD []))]⟩:=AY qT rfl (by simp[cellsOf]) rfl
 simp only[go_sem,seval,qX,ox,oy,uO hi,dp]<;>rfl
theorem j3i{y:qk} {j:Nat} {caps:List qa} {l:Option (List qk)} {i:Nat} {cs:List (qa×Bool)} (hlen:(l.getD []).length≤1073741824) (hi:i<(l.getD []).length) (dp:zg pr (X pr) j (.ptr 0 (i*3)::caps) [.cells (bz z6 (l.getD []))]=I (.aC [],En,[.cells cs])) (hcs:cs.map (·.1)=yu z6 ((l.getD []).set i y)):jz pr (X pr) 241 [sl 3 z6 l,Iv (i:Int),.fn (.func j) [] caps]=I (sl 3 z6 (I ((l.getD []).set i y)),En):=by
 have hl:((l.getD []).set i y).length=(l.getD []).length:=E6
 have hz:aB [.cells cs] (.ms 0 0 ((l.getD []).length))=I (sl 3 z6 (I ((l.getD []).set i y))):=by
  rw[D3,←hl]
  exact uN qT (by rw[hl];omega) hcs
 exact ky rfl (zau hlen hi dp) hz (by first|rfl|simp only[go_sem,seval])
theorem zfh {j:Nat}{caps:List qa}{l:Option (List ql)}{i:Nat}{cs:List (qa×Bool)}(hlen:(l.getD []).length≤1073741824)(hi:i<(l.getD []).length)(dp:zg pr (X pr) j (.ptr 0 (i*2)::caps) [.cells (bz aS (l.getD []))]=I (.aC [],En,[.cells cs])):zg pr (X pr) 248 [sl 2 aS l,Iv (i:Int),.fn (.func j) [] caps] []=I (.ms 0 0 ((l.getD []).length),En,[.cells cs]):=by
 rw[zh (show pr.bL 248=I qY from rfl) (by simp)]
 have ox:uM 0 0 2 24 [(.str []),(Iv 0)] [.hole] (I (Lv l)) (I (Lv l))=I ⟨.ms 0 0 (l.getD []).length,En,E4,[.cells (cellsOf (E2 (l.getD []).length [(.str []),(Iv 0)]).flatten)]⟩:=by apply AX<;>first|exact hlen|rfl|decide
 have oy:vG 1 E4 2 [.cells (cellsOf (E2 (l.getD []).length [(.str []),(Iv 0)]).flatten)] (I (.ms 0 0 (l.getD []).length)) (I (sl 2 aS l))=I ⟨Lv l,En,E4,[.cells (bz aS (l.getD []))]⟩:=AY ov rfl (by simp[cellsOf]) rfl
 simp only[go_sem,seval,qY,ox,oy,uO hi,dp]<;>rfl
theorem j4r{y:ql} {j:Nat} {caps:List qa} {l:Option (List ql)} {i:Nat} {cs:List (qa×Bool)} (hlen:(l.getD []).length≤1073741824) (hi:i<(l.getD []).length) (dp:zg pr (X pr) j (.ptr 0 (i*2)::caps) [.cells (bz aS (l.getD []))]=I (.aC [],En,[.cells cs])) (hcs:cs.map (·.1)=yu aS ((l.getD []).set i y)):jz pr (X pr) 248 [sl 2 aS l,Iv (i:Int),.fn (.func j) [] caps]=I (sl 2 aS (I ((l.getD []).set i y)),En):=by
 have hl:((l.getD []).set i y).length=(l.getD []).length:=E6
 have hz:aB [.cells cs] (.ms 0 0 ((l.getD []).length))=I (sl 2 aS (I ((l.getD []).set i y))):=by
  rw[D3,←hl]
  exact uN ov (by rw[hl];omega) hcs
 exact ky rfl (zfh hlen hi dp) hz (by first|rfl|simp only[go_sem,seval])
end Go.Z
namespace Go.Z
open Go Go.Abs Go.W
def fL {α:Type}(l:Option (List α))(i:Int)(g:α→Option α):Option (Option (List α)):=
 if(l.getD []).length≤1073741824∧0≤i then(match(l.getD [])[i.toNat]? with
  |some x=>(match g x with
   |some y=>I (I ((l.getD []).set i.toNat y))
   |none=>E4)
  |none=>E4)else E4
theorem xP {α:Type}{l:Option (List α)}{i:Int}{g:α→Option α}{r}(h:fL l i g=I r):∃(n:Nat) (x y:α),i=(n:Int)∧(l.getD []).length≤1073741824∧(l.getD [])[n]?=I x∧g x=I y∧r=I ((l.getD []).set n y):=by
 unfold fL at h
 split at h
 ·rename_i hc
  split at h
  ·rename_i x hx
   split at h
   ·rename_i y hy
    cases h
    exact⟨i.toNat,x,y,(Int.toNat_of_nonneg hc.2).symm,hc.1,hx,hy,rfl⟩
   ·cases h
  ·cases h
 ·cases h
theorem V8 {l r:Option (List qi)}{i:Int}{g:qi→Option qi}{j:Nat}{caps:List qa}(dp:∀(n:Nat) (x y:qi),(l.getD [])[n]?=I x→g x=I y→∃cs,zg pr (X pr) j (.ptr 0 (n*4)::caps) [.cells (bz zt (l.getD []))]=I (.aC [],En,[.cells cs])∧cs.map (·.1)=yu zt ((l.getD []).set n y))(h:fL l i g=I r):jz pr (X pr) 178 [sl 4 zt l,Iv i,.fn (.func j) [] caps]=I (sl 4 zt r,En):=by
 obtain⟨n,x,y,rfl,hl,hx,hy,rfl⟩:=xP h
 obtain⟨cs,h1,h2⟩:=dp n x y hx hy
 exact j3b hl (E3.1 hx).1 h1 h2
theorem V9 {l r:Option (List qj)}{i:Int}{g:qj→Option qj}{j:Nat}{caps:List qa}(dp:∀(n:Nat) (x y:qj),(l.getD [])[n]?=I x→g x=I y→∃cs,zg pr (X pr) j (.ptr 0 (n*5)::caps) [.cells (bz z8 (l.getD []))]=I (.aC [],En,[.cells cs])∧cs.map (·.1)=yu z8 ((l.getD []).set n y))(h:fL l i g=I r):jz pr (X pr) 185 [sl 5 z8 l,Iv i,.fn (.func j) [] caps]=I (sl 5 z8 r,En):=by
 obtain⟨n,x,y,rfl,hl,hx,hy,rfl⟩:=xP h
 obtain⟨cs,h1,h2⟩:=dp n x y hx hy
 exact j6q hl (E3.1 hx).1 h1 h2
theorem D5 {l r:Option (List qe)}{i:Int}{g:qe→Option qe}{j:Nat}{caps:List qa}(dp:∀(n:Nat) (x y:qe),(l.getD [])[n]?=I x→g x=I y→∃cs,zg pr (X pr) j (.ptr 0 (n*8)::caps) [.cells (bz bh (l.getD []))]=I (.aC [],En,[.cells cs])∧cs.map (·.1)=yu bh ((l.getD []).set n y))(h:fL l i g=I r):jz pr (X pr) 189 [sl 8 bh l,Iv i,.fn (.func j) [] caps]=I (sl 8 bh r,En):=by
 obtain⟨n,x,y,rfl,hl,hx,hy,rfl⟩:=xP h
 obtain⟨cs,h1,h2⟩:=dp n x y hx hy
 exact jw0 hl (E3.1 hx).1 h1 h2
theorem jwg {l r:Option (List ql)}{i:Int}{g:ql→Option ql}{j:Nat}{caps:List qa}(dp:∀(n:Nat) (x y:ql),(l.getD [])[n]?=I x→g x=I y→∃cs,zg pr (X pr) j (.ptr 0 (n*2)::caps) [.cells (bz aS (l.getD []))]=I (.aC [],En,[.cells cs])∧cs.map (·.1)=yu aS ((l.getD []).set n y))(h:fL l i g=I r):jz pr (X pr) 237 [sl 2 aS l,Iv i,.fn (.func j) [] caps]=I (sl 2 aS r,En):=by
 obtain⟨n,x,y,rfl,hl,hx,hy,rfl⟩:=xP h
 obtain⟨cs,h1,h2⟩:=dp n x y hx hy
 exact j22 hl (E3.1 hx).1 h1 h2
theorem j3v {l r:Option (List qk)}{i:Int}{g:qk→Option qk}{j:Nat}{caps:List qa}(dp:∀(n:Nat) (x y:qk),(l.getD [])[n]?=I x→g x=I y→∃cs,zg pr (X pr) j (.ptr 0 (n*3)::caps) [.cells (bz z6 (l.getD []))]=I (.aC [],En,[.cells cs])∧cs.map (·.1)=yu z6 ((l.getD []).set n y))(h:fL l i g=I r):jz pr (X pr) 241 [sl 3 z6 l,Iv i,.fn (.func j) [] caps]=I (sl 3 z6 r,En):=by
 obtain⟨n,x,y,rfl,hl,hx,hy,rfl⟩:=xP h
 obtain⟨cs,h1,h2⟩:=dp n x y hx hy
 exact j3i hl (E3.1 hx).1 h1 h2
theorem j6o {l r:Option (List ql)}{i:Int}{g:ql→Option ql}{j:Nat}{caps:List qa}(dp:∀(n:Nat) (x y:ql),(l.getD [])[n]?=I x→g x=I y→∃cs,zg pr (X pr) j (.ptr 0 (n*2)::caps) [.cells (bz aS (l.getD []))]=I (.aC [],En,[.cells cs])∧cs.map (·.1)=yu aS ((l.getD []).set n y))(h:fL l i g=I r):jz pr (X pr) 248 [sl 2 aS l,Iv i,.fn (.func j) [] caps]=I (sl 2 aS r,En):=by
 obtain⟨n,x,y,rfl,hl,hx,hy,rfl⟩:=xP h
 obtain⟨cs,h1,h2⟩:=dp n x y hx hy
 exact j4r hl (E3.1 hx).1 h1 h2
theorem zhk {l:List qj}{i:Nat}{x:qj}(hx:l[i]?=I x):zg pr (X pr) 198 [.ptr 0 (i*5)] [.cells (bz z8 l)]=I (.aC [],En,[.cells (bz z8 (l.set i { x with held:=Gk }))]):=by
 rw[zh (show pr.bL 198=I qZ from rfl) (by simp)]
 have st:yi (bz z8 l) (i*5+4) [.bool Gk]=I (bz z8 (l.set i { x with held:=Gk })):=lS (o:=4) fN.len hx (E1 rfl) rfl rfl
 simp only[go_sem,seval,qZ,st]<;>rfl
def Vi (l:Option (List qj))(i:Int):Option (Option (List qj)):=fL l i fun x=>I { x with held:=Gk }
theorem jdx {l:Option (List qj)}{i:Int}{r}(h:Vi l i=I r):jz pr (X pr) 185 [sl 5 z8 l,Iv i,.fn (.func 198) [] []]=I (sl 5 z8 r,En):=
 V9 (fun n x y hx hy=>by cases hy;exact⟨_,zhk hx,kx⟩) h
theorem zdj {l:List qj}{i:Nat}{x:qj}(hx:l[i]?=I x):zg pr (X pr) 199 [.ptr 0 (i*5)] [.cells (bz z8 l)]=I (.aC [],En,[.cells (bz z8 (l.set i { x with held:=En }))]):=by
 rw[zh (show pr.bL 199=I rh from rfl) (by simp)]
 have st:yi (bz z8 l) (i*5+4) [.bool En]=I (bz z8 (l.set i { x with held:=En })):=lS (o:=4) fN.len hx (E1 rfl) rfl rfl
 simp only[go_sem,seval,rh,st]<;>rfl
def Vj (l:Option (List qj))(i:Int):Option (Option (List qj)):=fL l i fun x=>I { x with held:=En }
theorem jg9 {l:Option (List qj)}{i:Int}{r}(h:Vj l i=I r):jz pr (X pr) 185 [sl 5 z8 l,Iv i,.fn (.func 199) [] []]=I (sl 5 z8 r,En):=
 V9 (fun n x y hx hy=>by cases hy;exact⟨_,zdj hx,kx⟩) h
theorem zd2 {l:List qe}{i:Nat}{x:qe}(hx:l[i]?=I x):zg pr (X pr) 200 [.ptr 0 (i*8)] [.cells (bz bh l)]=I (.aC [],En,[.cells (bz bh (l.set i { x with ar:=Gk }))]):=by
 rw[zh (show pr.bL 200=I ri from rfl) (by simp)]
 have st:yi (bz bh l) (i*8+6) [.bool Gk]=I (bz bh (l.set i { x with ar:=Gk })):=lS (o:=6) dE.len hx (E1 rfl) rfl rfl
 simp only[go_sem,seval,ri,st]<;>rfl
def Vm (l:Option (List qe))(i:Int):Option (Option (List qe)):=fL l i fun x=>I { x with ar:=Gk }
theorem jds {l:Option (List qe)}{i:Int}{r}(h:Vm l i=I r):jz pr (X pr) 189 [sl 8 bh l,Iv i,.fn (.func 200) [] []]=I (sl 8 bh r,En):=
 D5 (fun n x y hx hy=>by cases hy;exact⟨_,zd2 hx,kx⟩) h
theorem zf7 {l:List qe}{i:Nat}{x:qe}(hx:l[i]?=I x):zg pr (X pr) 201 [.ptr 0 (i*8)] [.cells (bz bh l)]=I (.aC [],En,[.cells (bz bh (l.set i { x with ai:=j9 .i64 (x.ai+1) }))]):=by
 rw[zh (show pr.bL 201=I rj from rfl) (by simp)]
 have st:yi (bz bh l) (i*8+7) [Iv (j9 .i64 (x.ai+1))]=I (bz bh (l.set i { x with ai:=j9 .i64 (x.ai+1) })):=lS (o:=7) dE.len hx (E1 rfl) rfl rfl
 have Wa:y9 (bz bh l) (i*8+7) 1=I [Iv x.ai]:=uy (o:=7) dE.len hx (by decide)
 simp only[go_sem,seval,rj,st,Wa]<;>rfl
def Vn (l:Option (List qe))(i:Int):Option (Option (List qe)):=fL l i fun x=>I { x with ai:=j9 .i64 (x.ai+1) }
theorem jh2 {l:Option (List qe)}{i:Int}{r}(h:Vn l i=I r):jz pr (X pr) 189 [sl 8 bh l,Iv i,.fn (.func 201) [] []]=I (sl 8 bh r,En):=
 D5 (fun n x y hx hy=>by cases hy;exact⟨_,zf7 hx,kx⟩) h
theorem zdz {l:List qe}{i:Nat}{x:qe}{v:Int}(hx:l[i]?=I x):zg pr (X pr) 195 [.ptr 0 (i*8),.ah (Iv v)] [.cells (bz bh l)]=I (.aC [],En,[.cells (bz bh (l.set i { x with version:=v }))]):=by
 rw[zh (show pr.bL 195=I rm from rfl) (by simp)]
 have st:yi (bz bh l) (i*8+2) [Iv v]=I (bz bh (l.set i { x with version:=v })):=lS (o:=2) dE.len hx (E1 rfl) rfl rfl
 simp only[go_sem,seval,rm,st]<;>rfl
def Vl (l:Option (List qe))(i:Int)(v:Int):Option (Option (List qe)):=fL l i fun x=>I { x with version:=v }
theorem jgr {l:Option (List qe)}{i:Int}{v:Int}{r}(h:Vl l i v=I r):jz pr (X pr) 189 [sl 8 bh l,Iv i,.fn (.func 195) [] [.ah (Iv v)]]=I (sl 8 bh r,En):=
 D5 (fun n x y hx hy=>by cases hy;exact⟨_,zdz hx,kx⟩) h
theorem zcx {l:List qe}{i:Nat}{x:qe}{b:qe}(hx:l[i]?=I x):zg pr (X pr) 196 [.ptr 0 (i*8),.ah (bh b)] [.cells (bz bh l)]=I (.aC [],En,[.cells (bz bh (l.set i { x with partner:=b.name }))]):=by
 rw[zh (show pr.bL 196=I rn from rfl) (by simp)]
 have st:yi (bz bh l) (i*8+5) [.str b.name]=I (bz bh (l.set i { x with partner:=b.name })):=lS (o:=5) dE.len hx (E1 rfl) rfl rfl
 simp only[go_sem,seval,rn,st,bh]<;>rfl
def uF (l:Option (List qe))(i:Int)(b:qe):Option (Option (List qe)):=fL l i fun x=>I { x with partner:=b.name }
theorem jgy {l:Option (List qe)}{i:Int}{b:qe}{r}(h:uF l i b=I r):jz pr (X pr) 189 [sl 8 bh l,Iv i,.fn (.func 196) [] [.ah (bh b)]]=I (sl 8 bh r,En):=
 D5 (fun n x y hx hy=>by cases hy;exact⟨_,zcx hx,kx⟩) h
theorem zh7 {l:List qe}{i:Nat}{x:qe}{b:qe}(hx:l[i]?=I x):zg pr (X pr) 197 [.ptr 0 (i*8),.ah (bh b)] [.cells (bz bh l)]=I (.aC [],En,[.cells (bz bh (l.set i { x with partner:=b.name }))]):=by
 rw[zh (show pr.bL 197=I rz from rfl) (by simp)]
 have st:yi (bz bh l) (i*8+5) [.str b.name]=I (bz bh (l.set i { x with partner:=b.name })):=lS (o:=5) dE.len hx (E1 rfl) rfl rfl
 simp only[go_sem,seval,rz,st,bh]<;>rfl
def uG (l:Option (List qe))(i:Int)(b:qe):Option (Option (List qe)):=fL l i fun x=>I { x with partner:=b.name }
theorem jeo {l:Option (List qe)}{i:Int}{b:qe}{r}(h:uG l i b=I r):jz pr (X pr) 189 [sl 8 bh l,Iv i,.fn (.func 197) [] [.ah (bh b)]]=I (sl 8 bh r,En):=
 D5 (fun n x y hx hy=>by cases hy;exact⟨_,zh7 hx,kx⟩) h
theorem j99 {l:List qj}{i:Nat}{x:qj}{v:Int}(hx:l[i]?=I x):zg pr (X pr) 186 [.ptr 0 (i*5),.ah (Iv v)] [.cells (bz z8 l)]=I (.aC [],En,[.cells (bz z8 (l.set i { x with left:=j9 .i64 (x.left-v) }))]):=by
 rw[zh (show pr.bL 186=I rA from rfl) (by simp)]
 have st:yi (bz z8 l) (i*5+3) [Iv (j9 .i64 (x.left-v))]=I (bz z8 (l.set i { x with left:=j9 .i64 (x.left-v) })):=lS (o:=3) fN.len hx (E1 rfl) rfl rfl
 have Wa:y9 (bz z8 l) (i*5+3) 1=I [Iv x.left]:=uy (o:=3) fN.len hx (by decide)
 simp only[go_sem,seval,rA,st,Wa]<;>rfl
def Vp (l:Option (List qj))(i:Int)(v:Int):Option (Option (List qj)):=fL l i fun x=>I { x with left:=j9 .i64 (x.left-v) }
theorem jgu {l:Option (List qj)}{i:Int}{v:Int}{r}(h:Vp l i v=I r):jz pr (X pr) 185 [sl 5 z8 l,Iv i,.fn (.func 186) [] [.ah (Iv v)]]=I (sl 5 z8 r,En):=
 V9 (fun n x y hx hy=>by cases hy;exact⟨_,j99 hx,kx⟩) h
theorem zc1 {l:List ql}{i:Nat}{x:ql}{b:ql}(hx:l[i]?=I x):zg pr (X pr) 238 [.ptr 0 (i*2),.ah (aS b)] [.cells (bz aS l)]=I (.aC [],En,[.cells (bz aS (l.set i b))]):=by
 rw[zh (show pr.bL 238=I rC from rfl) (by simp)]
 have st:yi (bz aS l) (i*2) [.str b.k,Iv b.n]=I (bz aS (l.set i b)):=lS (o:=0) ov.len hx (E1 rfl) rfl rfl
 simp only[go_sem,seval,rC,st,aS]<;>rfl
def jt9 (l:Option (List ql))(i:Int)(b:ql):Option (Option (List ql)):=fL l i fun x=>I b
theorem jin {l:Option (List ql)}{i:Int}{b:ql}{r}(h:jt9 l i b=I r):jz pr (X pr) 237 [sl 2 aS l,Iv i,.fn (.func 238) [] [.ah (aS b)]]=I (sl 2 aS r,En):=
 jwg (fun n x y hx hy=>by cases hy;exact⟨_,zc1 hx,kx⟩) h
theorem zhj {l:List qk}{i:Nat}{x:qk}{b:qk}(hx:l[i]?=I x):zg pr (X pr) 242 [.ptr 0 (i*3),.ah (z6 b)] [.cells (bz z6 l)]=I (.aC [],En,[.cells (bz z6 (l.set i b))]):=by
 rw[zh (show pr.bL 242=I rD from rfl) (by simp)]
 have st:yi (bz z6 l) (i*3) [.str b.k,Iv b.a,Iv b.b]=I (bz z6 (l.set i b)):=lS (o:=0) qT.len hx (E1 rfl) rfl rfl
 simp only[go_sem,seval,rD,st,z6]<;>rfl
def jum (l:Option (List qk))(i:Int)(b:qk):Option (Option (List qk)):=fL l i fun x=>I b
theorem jfg {l:Option (List qk)}{i:Int}{b:qk}{r}(h:jum l i b=I r):jz pr (X pr) 241 [sl 3 z6 l,Iv i,.fn (.func 242) [] [.ah (z6 b)]]=I (sl 3 z6 r,En):=
 j3v (fun n x y hx hy=>by cases hy;exact⟨_,zhj hx,kx⟩) h
theorem j9l {l:List ql}{i:Nat}{x:ql}{b:ql}(hx:l[i]?=I x):zg pr (X pr) 249 [.ptr 0 (i*2),.ah (aS b)] [.cells (bz aS l)]=I (.aC [],En,[.cells (bz aS (l.set i b))]):=by
 rw[zh (show pr.bL 249=I rE from rfl) (by simp)]
 have st:yi (bz aS l) (i*2) [.str b.k,Iv b.n]=I (bz aS (l.set i b)):=lS (o:=0) ov.len hx (E1 rfl) rfl rfl
 simp only[go_sem,seval,rE,st,aS]<;>rfl
def jt4 (l:Option (List ql))(i:Int)(b:ql):Option (Option (List ql)):=fL l i fun x=>I b
theorem jf2 {l:Option (List ql)}{i:Int}{b:ql}{r}(h:jt4 l i b=I r):jz pr (X pr) 248 [sl 2 aS l,Iv i,.fn (.func 249) [] [.ah (aS b)]]=I (sl 2 aS r,En):=
 j6o (fun n x y hx hy=>by cases hy;exact⟨_,j9l hx,kx⟩) h
end Go.Z
namespace Go.Z
open Go Go.Abs Go.W
def f167 (a0:ql)(a1:List UInt8):Option Bool:=
 I (decide (a0.k=a1))
theorem Wb (hp:j8){a0:ql}{a1:List UInt8}{r}(h:f167 a0 a1=I r):zg pr (X pr) 167 [aN a0,.ah (.str a1)] hp=I (.bool r,En,hp):=by
 unfold f167 at h
 have hr:decide (a0.k=a1)=r:=I.inj h
 subst hr
 rw[zh (show pr.bL 167=I rF from rfl) (by simp)]
 simp only[go_sem,seval,rF]<;>rfl
def NN (a0:Option (List ql))(aq:List UInt8)(s0:Int):Option (Int⊕(Int⊕Int)):=
 cond (decide (s0<((a0.getD []).length:Int)))
  (jx (zp (a0.getD []) s0) fun dz=>
  jx (f167 dz aq) fun dm=>
  cond dm
   (I (.inr (.inl s0)))
   (I (.inl (j9 .i64 (s0+1)))))
  (I (.inr (.inr s0)))
def Hz (a0:Option (List ql))(aq:List UInt8)(hp:j8)(s0:Int):qg:=⟨[(0,sl 2 aS a0,En),(1,.fn (.func 167) [] [.ah (.str aq)],En),(7,Lv a0,En),(8,Iv s0,En)],hp⟩
def HA (a0:Option (List ql))(aq:List UInt8)(hp:j8):Int⊕Int→qo×qg
 | .inl d=>(.ret,⟨[(4,Iv d,En)],hp⟩)
 | .inr d=>(.exit 0,⟨[(0,sl 2 aS a0,En),(1,.fn (.func 167) [] [.ah (.str aq)],En),(7,Lv a0,En),(8,Iv d,En),(9,.bool En,En)],hp⟩)
theorem jml (a0:Option (List ql))(aq:List UInt8)(hp:j8)(s0:Int)(r)(h:NN a0 aq s0=I r):yo pr lF (Hz a0 aq hp) (HA a0 aq hp) s0 r:=by
 unfold NN at h
 repeat' first|(replace h:=jy h;obtain⟨d,g,h⟩:=h;with_reducible first|replace g:=Wb hp g|skip)|(replace h:=j6 h;rcases h with⟨g,h⟩|⟨g,h⟩)|fail
 all_goals (cases h<;>(first|(refine zy ?_;simp only[go_sem,seval,lF,Hz,zn,HA, *]<;>rfl)|(refine yh ?_;simp only[go_sem,seval,lF,Hz,zn,HA, *]<;>rfl)))
theorem jmq (a0:Option (List ql))(aq:List UInt8)(hp:j8){s0:Int}{d}(h:bf (NN a0 aq) s0=I d):X pr (.loop lF) (Hz a0 aq hp s0)=I (HA a0 aq hp d):=yz (jml a0 aq hp) (fun d=>by rcases d with d|d<;>(intro hh;cases hh)) h
def GO (a0:Option (List ql))(aq:List UInt8):Option Int:=
 jx (bf (NN a0 aq) 0) fun d19=>match d19 with
  | .inl d21=>
   I d21
  | .inr d22=>
   I (-1)
theorem j54 (hp:j8){a0:Option (List ql)}{aq:List UInt8}{r}(h:GO a0 aq=I r):zg pr (X pr) 235 [sl 2 aS a0,.fn (.func 167) [] [.ah (.str aq)]] hp=I (Iv r,En,hp):=by
 unfold GO at h
 rw[zh (show pr.bL 235=I iu from rfl) (by simp)]
 repeat' first|(replace h:=jy h;obtain⟨d,g,h⟩:=h;with_reducible first|(replace g:=jmq a0 aq hp g;rcases d with d|d<;>dsimp only[Hz,HA,y8]at g h)|skip)|(replace h:=j6 h;rcases h with⟨g,h⟩|⟨g,h⟩)|fail
 all_goals (cases h<;>(simp only[go_sem,seval,iu, *]<;>rfl))
def NP (a0:Option (List ql))(aq:List UInt8)(s0:Int):Option (Int⊕(Int⊕Int)):=
 cond (decide (s0<((a0.getD []).length:Int)))
  (jx (zp (a0.getD []) s0) fun dz=>
  jx (f167 dz aq) fun dm=>
  cond dm
   (I (.inr (.inl s0)))
   (I (.inl (j9 .i64 (s0+1)))))
  (I (.inr (.inr s0)))
def HC (a0:Option (List ql))(aq:List UInt8)(s0:Int):qg:=⟨[(0,sl 2 aS a0,En),(1,.fn (.func 167) [] [.ah (.str aq)],En),(7,Lv a0,En),(8,Iv s0,En)],[]⟩
def HD (a0:Option (List ql))(aq:List UInt8):Int⊕Int→qo×qg
 | .inl d=>(.ret,⟨[(4,Iv d,En)],[]⟩)
 | .inr d=>(.exit 0,⟨[(0,sl 2 aS a0,En),(1,.fn (.func 167) [] [.ah (.str aq)],En),(7,Lv a0,En),(8,Iv d,En),(9,.bool En,En)],[]⟩)
theorem jm4 (a0:Option (List ql))(aq:List UInt8)(s0:Int)(r)(h:NP a0 aq s0=I r):yo pr lF (HC a0 aq) (HD a0 aq) s0 r:=by
 unfold NP at h
 repeat' first|(replace h:=jy h;obtain⟨d,g,h⟩:=h;with_reducible first|replace g:=Wb [] g|skip)|(replace h:=j6 h;rcases h with⟨g,h⟩|⟨g,h⟩)|fail
 all_goals (cases h<;>(first|(refine zy ?_;simp only[go_sem,seval,lF,HC,zn,HD, *]<;>rfl)|(refine yh ?_;simp only[go_sem,seval,lF,HC,zn,HD, *]<;>rfl)))
theorem jmc (a0:Option (List ql))(aq:List UInt8){s0:Int}{d}(h:bf (NP a0 aq) s0=I d):X pr (.loop lF) (HC a0 aq s0)=I (HD a0 aq d):=yz (jm4 a0 aq) (fun d=>by rcases d with d|d<;>(intro hh;cases hh)) h
def GL (a0:Option (List ql))(aq:List UInt8):Option Int:=
 jx (bf (NP a0 aq) 0) fun d19=>match d19 with
  | .inl d21=>
   I d21
  | .inr d22=>
   I (-1)
theorem j2a {a0:Option (List ql)}{aq:List UInt8}{r}(h:GL a0 aq=I r):jz pr (X pr) 235 [sl 2 aS a0,.fn (.func 167) [] [.ah (.str aq)]]=I (Iv r,En):=by
 unfold GL at h
 refine y7 iu ?_
 repeat' first|(replace h:=jy h;obtain⟨d,g,h⟩:=h;with_reducible first|(replace g:=jmc a0 aq g;rcases d with d|d<;>dsimp only[HC,HD,y8]at g h)|skip)|(replace h:=j6 h;rcases h with⟨g,h⟩|⟨g,h⟩)|fail
 all_goals (cases h<;>(simp only[go_sem,seval,iu, *];exact⟨_,rfl⟩))
def GN (a0:Option (List ql))(aq:List UInt8):Option Bool:=
 jx (GO a0 aq) fun v1=>
 I (decide (0≤v1))
theorem j1i {a0:Option (List ql)}{aq:List UInt8}{r}(h:GN a0 aq=I r):jz pr (X pr) 168 [sl 2 aS a0,.fn (.func 167) [] [.ah (.str aq)]]=I (.bool r,En):=by
 unfold GN at h
 refine y7 kB ?_
 repeat' first|(replace h:=jy h;obtain⟨d,g,h⟩:=h;with_reducible first|replace g:=j54 [] g|skip)|(replace h:=j6 h;rcases h with⟨g,h⟩|⟨g,h⟩)|fail
 all_goals (cases h<;>(simp only[go_sem,seval,kB, *];exact⟨_,rfl⟩))
def f184 (a0:ql)(a1:qj):Option Bool:=
 I (decide (a0.k=a1.kind))
theorem zc9 (hp:j8){a0:ql}{a1:qj}{r}(h:f184 a0 a1=I r):zg pr (X pr) 184 [aN a0,.ah (aL a1)] hp=I (.bool r,En,hp):=by
 unfold f184 at h
 have hr:decide (a0.k=a1.kind)=r:=I.inj h
 subst hr
 rw[zh (show pr.bL 184=I rG from rfl) (by simp)]
 simp only[go_sem,seval,rG]<;>rfl
def NQ (a0:Option (List ql))(aq:qj)(s0:Int):Option (Int⊕(Int⊕Int)):=
 cond (decide (s0<((a0.getD []).length:Int)))
  (jx (zp (a0.getD []) s0) fun dz=>
  jx (f184 dz aq) fun dm=>
  cond dm
   (I (.inr (.inl s0)))
   (I (.inl (j9 .i64 (s0+1)))))
  (I (.inr (.inr s0)))
def HE (a0:Option (List ql))(aq:qj)(hp:j8)(s0:Int):qg:=⟨[(0,sl 2 aS a0,En),(1,.fn (.func 184) [] [.ah (aL aq)],En),(7,Lv a0,En),(8,Iv s0,En)],hp⟩
def HF (a0:Option (List ql))(aq:qj)(hp:j8):Int⊕Int→qo×qg
 | .inl d=>(.ret,⟨[(4,Iv d,En)],hp⟩)
 | .inr d=>(.exit 0,⟨[(0,sl 2 aS a0,En),(1,.fn (.func 184) [] [.ah (aL aq)],En),(7,Lv a0,En),(8,Iv d,En),(9,.bool En,En)],hp⟩)
theorem jlg (a0:Option (List ql))(aq:qj)(hp:j8)(s0:Int)(r)(h:NQ a0 aq s0=I r):yo pr lF (HE a0 aq hp) (HF a0 aq hp) s0 r:=by
 unfold NQ at h
 repeat' first|(replace h:=jy h;obtain⟨d,g,h⟩:=h;with_reducible first|replace g:=zc9 hp g|skip)|(replace h:=j6 h;rcases h with⟨g,h⟩|⟨g,h⟩)|fail
 all_goals (cases h<;>(first|(refine zy ?_;simp only[go_sem,seval,lF,HE,zn,HF, *]<;>rfl)|(refine yh ?_;simp only[go_sem,seval,lF,HE,zn,HF, *]<;>rfl)))
theorem jm5 (a0:Option (List ql))(aq:qj)(hp:j8){s0:Int}{d}(h:bf (NQ a0 aq) s0=I d):X pr (.loop lF) (HE a0 aq hp s0)=I (HF a0 aq hp d):=yz (jlg a0 aq hp) (fun d=>by rcases d with d|d<;>(intro hh;cases hh)) h
def GR (a0:Option (List ql))(aq:qj):Option Int:=
 jx (bf (NQ a0 aq) 0) fun d19=>match d19 with
  | .inl d21=>
   I d21
  | .inr d22=>
   I (-1)
theorem jx6 (hp:j8){a0:Option (List ql)}{aq:qj}{r}(h:GR a0 aq=I r):zg pr (X pr) 235 [sl 2 aS a0,.fn (.func 184) [] [.ah (aL aq)]] hp=I (Iv r,En,hp):=by
 unfold GR at h
 rw[zh (show pr.bL 235=I iu from rfl) (by simp)]
 repeat' first|(replace h:=jy h;obtain⟨d,g,h⟩:=h;with_reducible first|(replace g:=jm5 a0 aq hp g;rcases d with d|d<;>dsimp only[HE,HF,y8]at g h)|skip)|(replace h:=j6 h;rcases h with⟨g,h⟩|⟨g,h⟩)|fail
 all_goals (cases h<;>(simp only[go_sem,seval,iu, *]<;>rfl))
def GQ (a0:Option (List ql))(aq:qj):Option Bool:=
 jx (GR a0 aq) fun v1=>
 I (decide (0≤v1))
theorem jzv {a0:Option (List ql)}{aq:qj}{r}(h:GQ a0 aq=I r):jz pr (X pr) 168 [sl 2 aS a0,.fn (.func 184) [] [.ah (aL aq)]]=I (.bool r,En):=by
 unfold GQ at h
 refine y7 kB ?_
 repeat' first|(replace h:=jy h;obtain⟨d,g,h⟩:=h;with_reducible first|replace g:=jx6 [] g|skip)|(replace h:=j6 h;rcases h with⟨g,h⟩|⟨g,h⟩)|fail
 all_goals (cases h<;>(simp only[go_sem,seval,kB, *];exact⟨_,rfl⟩))
def f172 (a0:ql)(lG:List UInt8):Option Bool:=
 jx (f167 a0 lG) fun v1=>
 I (!v1)
theorem zh5 (hp:j8){a0:ql}{lG:List UInt8}{r}(h:f172 a0 lG=I r):zg pr (X pr) 172 [aN a0,.ah (.fn (.func 167) [] [.ah (.str lG)])] hp=I (.bool r,En,hp):=by
 unfold f172 at h
 obtain⟨v1,h2,h⟩:=jy h
 have rH:zg pr (X pr) 167 [aN a0,.ah (.str lG)] hp=I (.bool v1,En,hp):=Wb hp h2
 have hr:(!v1)=r:=I.inj h
 subst hr
 rw[zh (show pr.bL 172=I rJ from rfl) (by simp)]
 simp only[go_sem,seval,rJ,rH]<;>rfl
def GM (a0:Option (List ql))(bO:List UInt8)(s0:(Option (List ql))×Int×Bool):Option (((Option (List ql))×Int×Bool)⊕(((Option (List ql))×Bool×Int))):=
 cond (decide (s0.2.1<((a0.getD []).length:Int)))
  (jx (zp (a0.getD []) s0.2.1) fun v20=>
  jx (f172 v20 bO) fun ea=>
  cond ea
   (cond s0.2.2
    (jx (bg s0.1 [v20]) fun eI=>
    I (.inl (eI,j9 .i64 (s0.2.1+1),Gk)))
    (cond s0.1.isNone
     (jx (bg s0.1 [v20]) fun fk=>
     I (.inl (fk,j9 .i64 (s0.2.1+1),Gk)))
     (E4)))
   (I (.inl (s0.1,j9 .i64 (s0.2.1+1),s0.2.2))))
  (I (.inr (s0.1,s0.2.2,s0.2.1)))
def HG (a0:Option (List ql))(bO:List UInt8)(hp:j8)(s0:(Option (List ql))×Int×Bool):qg:=⟨[(1,.fn (.func 172) [] [.ah (.fn (.func 167) [] [.ah (.str bO)])],En),(5,sl 2 aS s0.1,s0.2.2),(8,sl 2 aS a0,En),(9,Lv a0,En),(10,Iv s0.2.1,En)],hp⟩
def HI (a0:Option (List ql))(bO:List UInt8)(hp:j8)(d:((Option (List ql))×Bool×Int)):qo×qg:=(.exit 0,⟨[(1,.fn (.func 172) [] [.ah (.fn (.func 167) [] [.ah (.str bO)])],En),(5,sl 2 aS d.1,d.2.1),(8,sl 2 aS a0,En),(9,Lv a0,En),(10,Iv d.2.2,En),(11,.bool En,En)],hp⟩)
theorem jtk (a0:Option (List ql))(bO:List UInt8)(hp:j8)(s0:(Option (List ql))×Int×Bool)(r)(h:GM a0 bO s0=I r):yo pr HJ (HG a0 bO hp) (HI a0 bO hp) s0 r:=by
 unfold GM at h
 repeat' first|(replace h:=jy h;obtain⟨d,g,h⟩:=h;with_reducible first|replace g:=zh5 hp g|replace g:=vu g|skip)|(replace h:=j6 h;rcases h with⟨g,h⟩|⟨g,h⟩)|fail
 all_goals (cases h<;>(first|(refine zy ?_;simp only[go_sem,seval,HJ,HG,zn,HI, *]<;>rfl)|(refine yh ?_;simp only[go_sem,seval,HJ,HG,zn,HI, *]<;>rfl)))
theorem jua (a0:Option (List ql))(bO:List UInt8)(hp:j8){s0:(Option (List ql))×Int×Bool}{d}(h:bf (GM a0 bO) s0=I d):X pr (.loop HJ) (HG a0 bO hp s0)=I (HI a0 bO hp d):=yz (jtk a0 bO hp) (fun d hh=>by cases hh) h
def f171 (a0:Option (List ql))(bO:List UInt8):Option ((Option (List ql))×Bool):=
 jx (bf (GM a0 bO) (E4,0,En)) fun d31=>
 I (d31.1,d31.2.1)
theorem zas (hp:j8){a0:Option (List ql)}{bO:List UInt8}{r}(h:f171 a0 bO=I r):zg pr (X pr) 171 [sl 2 aS a0,.fn (.func 172) [] [.ah (.fn (.func 167) [] [.ah (.str bO)])]] hp=I (sl 2 aS r.1,r.2,hp):=by
 unfold f171 at h
 rw[zh (show pr.bL 171=I rK from rfl) (by simp)]
 repeat' first|(replace h:=jy h;obtain⟨d,g,h⟩:=h;with_reducible first|(replace g:=jua a0 bO hp g;dsimp only[HG,HI,y8]at g h)|skip)|(replace h:=j6 h;rcases h with⟨g,h⟩|⟨g,h⟩)|fail
 all_goals (cases h<;>(simp only[go_sem,seval,rK, *]<;>rfl))
def f173 (a0:Option (List ql))(a1:ql)(dl:List UInt8):Option ((Option (List ql))×Bool):=
 jx (GL a0 dl) fun v1=>
 cond (decide (0≤v1))
  (jx (jt9 a0 v1 a1) fun v4=>
  I (v4,En))
  (jx (f239 a0 a1) fun v6=>
  I (v6,Gk))
theorem zfm {a0:Option (List ql)}{a1:ql}{dl:List UInt8}{r}(h:f173 a0 a1 dl=I r):jz pr (X pr) 173 [sl 2 aS a0,aN a1,.fn (.func 167) [] [.ah (.str dl)]]=I (sl 2 aS r.1,r.2):=by
 unfold f173 at h
 refine eU rL ?_
 repeat' first|(replace h:=jy h;obtain⟨d,g,h⟩:=h; (with_reducible first|replace g:=j2a g|replace g:=jin g|replace g:=zgv g|skip);try dsimp only[y8,ly,H7,kw,qag,z8,zt,bh,y6,vev,aS,z6,dk,aE,aR,aU,aL,aP,aD]at g)|(replace h:=j6 h;rcases h with⟨g,h⟩|⟨g,h⟩)|fail
 all_goals (cases h<;>(simp only[go_sem,seval,rL, *];exact⟨_,rfl⟩))
def f174 (a0:qk)(a1:qk):Option Bool:=
 I (decide (a0.k=a1.k))
theorem zfu (hp:j8){a0:qk}{a1:qk}{r}(h:f174 a0 a1=I r):zg pr (X pr) 174 [aT a0,.ah (aT a1)] hp=I (.bool r,En,hp):=by
 unfold f174 at h
 have hr:decide (a0.k=a1.k)=r:=I.inj h
 subst hr
 rw[zh (show pr.bL 174=I rM from rfl) (by simp)]
 simp only[go_sem,seval,rM]<;>rfl
def NR (a0:Option (List qk))(aq:qk)(s0:Int):Option (Int⊕(Int⊕Int)):=
 cond (decide (s0<((a0.getD []).length:Int)))
  (jx (zp (a0.getD []) s0) fun dz=>
  jx (f174 dz aq) fun dm=>
  cond dm
   (I (.inr (.inl s0)))
   (I (.inl (j9 .i64 (s0+1)))))
  (I (.inr (.inr s0)))
def HK (a0:Option (List qk))(aq:qk)(s0:Int):qg:=⟨[(0,sl 3 z6 a0,En),(1,.fn (.func 174) [] [.ah (aT aq)],En),(7,Lv a0,En),(8,Iv s0,En)],[]⟩
def HL (a0:Option (List qk))(aq:qk):Int⊕Int→qo×qg
 | .inl d=>(.ret,⟨[(4,Iv d,En)],[]⟩)
 | .inr d=>(.exit 0,⟨[(0,sl 3 z6 a0,En),(1,.fn (.func 174) [] [.ah (aT aq)],En),(7,Lv a0,En),(8,Iv d,En),(9,.bool En,En)],[]⟩)
theorem jky (a0:Option (List qk))(aq:qk)(s0:Int)(r)(h:NR a0 aq s0=I r):yo pr vJ (HK a0 aq) (HL a0 aq) s0 r:=by
 unfold NR at h
 repeat' first|(replace h:=jy h;obtain⟨d,g,h⟩:=h;with_reducible first|replace g:=zfu [] g|skip)|(replace h:=j6 h;rcases h with⟨g,h⟩|⟨g,h⟩)|fail
 all_goals (cases h<;>(first|(refine zy ?_;simp only[go_sem,seval,vJ,HK,zn,HL, *]<;>rfl)|(refine yh ?_;simp only[go_sem,seval,vJ,HK,zn,HL, *]<;>rfl)))
theorem jmy (a0:Option (List qk))(aq:qk){s0:Int}{d}(h:bf (NR a0 aq) s0=I d):X pr (.loop vJ) (HK a0 aq s0)=I (HL a0 aq d):=yz (jky a0 aq) (fun d=>by rcases d with d|d<;>(intro hh;cases hh)) h
def xt (a0:Option (List qk))(aq:qk):Option Int:=
 jx (bf (NR a0 aq) 0) fun d19=>match d19 with
  | .inl d21=>
   I d21
  | .inr d22=>
   I (-1)
theorem jjz {a0:Option (List qk)}{aq:qk}{r}(h:xt a0 aq=I r):jz pr (X pr) 240 [sl 3 z6 a0,.fn (.func 174) [] [.ah (aT aq)]]=I (Iv r,En):=by
 unfold xt at h
 refine y7 mV ?_
 repeat' first|(replace h:=jy h;obtain⟨d,g,h⟩:=h;with_reducible first|(replace g:=jmy a0 aq g;rcases d with d|d<;>dsimp only[HK,HL,y8]at g h)|skip)|(replace h:=j6 h;rcases h with⟨g,h⟩|⟨g,h⟩)|fail
 all_goals (cases h<;>(simp only[go_sem,seval,mV, *];exact⟨_,rfl⟩))
def GU (a0:Option (List qk))(aq:qk):Option Bool:=
 jx (xt a0 aq) fun v1=>
 I (decide (0≤v1))
theorem j5b {a0:Option (List qk)}{aq:qk}{r}(h:GU a0 aq=I r):jz pr (X pr) 175 [sl 3 z6 a0,.fn (.func 174) [] [.ah (aT aq)]]=I (.bool r,En):=by
 unfold GU at h
 refine y7 mW ?_
 repeat' first|(replace h:=jy h;obtain⟨d,g,h⟩:=h;with_reducible first|replace g:=jjz g|skip)|(replace h:=j6 h;rcases h with⟨g,h⟩|⟨g,h⟩)|fail
 all_goals (cases h<;>(simp only[go_sem,seval,mW, *];exact⟨_,rfl⟩))
def f177 (a0:Option (List qk))(a1:qk)(dl:qk):Option ((Option (List qk))×Bool):=
 jx (xt a0 dl) fun v1=>
 cond (decide (0≤v1))
  (jx (jum a0 v1 a1) fun v4=>
  I (v4,En))
  (jx (f243 a0 a1) fun v6=>
  I (v6,Gk))
theorem zhw {a0:Option (List qk)}{a1:qk}{dl:qk}{r}(h:f177 a0 a1 dl=I r):jz pr (X pr) 177 [sl 3 z6 a0,aT a1,.fn (.func 174) [] [.ah (aT dl)]]=I (sl 3 z6 r.1,r.2):=by
 unfold f177 at h
 refine eU rN ?_
 repeat' first|(replace h:=jy h;obtain⟨d,g,h⟩:=h; (with_reducible first|replace g:=jjz g|replace g:=jfg g|replace g:=zgg g|skip);try dsimp only[y8,ly,H7,kw,qag,z8,zt,bh,y6,vev,aS,z6,dk,aE,aR,aU,aL,aP,aD]at g)|(replace h:=j6 h;rcases h with⟨g,h⟩|⟨g,h⟩)|fail
 all_goals (cases h<;>(simp only[go_sem,seval,rN, *];exact⟨_,rfl⟩))
def f192 (a0:qk)(a1:qm):Option Bool:=
 jx (zp (a1.names.getD []) 1) fun v1=>
 I (decide (a0.k=v1))
theorem zca (hp:j8){a0:qk}{a1:qm}{r}(h:f192 a0 a1=I r):zg pr (X pr) 192 [aT a0,.ah (aE a1)] hp=I (.bool r,En,hp):=by
 unfold f192 at h
 obtain⟨v1,h2,h⟩:=jy h
 have hr:decide (a0.k=v1)=r:=I.inj h
 subst hr
 rw[zh (show pr.bL 192=I rO from rfl) (by simp)]
 simp only[go_sem,seval,rO,ko h2]<;>rfl
def GY (a0:Option (List qk))(aq:qm)(s0:Int):Option (Int⊕(Int⊕Int)):=
 cond (decide (s0<((a0.getD []).length:Int)))
  (jx (zp (a0.getD []) s0) fun dz=>
  jx (f192 dz aq) fun dm=>
  cond dm
   (I (.inr (.inl s0)))
   (I (.inl (j9 .i64 (s0+1)))))
  (I (.inr (.inr s0)))
def HM (a0:Option (List qk))(aq:qm)(s0:Int):qg:=⟨[(0,sl 3 z6 a0,En),(1,.fn (.func 192) [] [.ah (aE aq)],En),(7,Lv a0,En),(8,Iv s0,En)],[]⟩
def HN (a0:Option (List qk))(aq:qm):Int⊕Int→qo×qg
 | .inl d=>(.ret,⟨[(4,Iv d,En)],[]⟩)
 | .inr d=>(.exit 0,⟨[(0,sl 3 z6 a0,En),(1,.fn (.func 192) [] [.ah (aE aq)],En),(7,Lv a0,En),(8,Iv d,En),(9,.bool En,En)],[]⟩)
theorem jk5 (a0:Option (List qk))(aq:qm)(s0:Int)(r)(h:GY a0 aq s0=I r):yo pr vJ (HM a0 aq) (HN a0 aq) s0 r:=by
 unfold GY at h
 repeat' first|(replace h:=jy h;obtain⟨d,g,h⟩:=h;with_reducible first|replace g:=zca [] g|skip)|(replace h:=j6 h;rcases h with⟨g,h⟩|⟨g,h⟩)|fail
 all_goals (cases h<;>(first|(refine zy ?_;simp only[go_sem,seval,vJ,HM,zn,HN, *]<;>rfl)|(refine yh ?_;simp only[go_sem,seval,vJ,HM,zn,HN, *]<;>rfl)))
theorem jm2 (a0:Option (List qk))(aq:qm){s0:Int}{d}(h:bf (GY a0 aq) s0=I d):X pr (.loop vJ) (HM a0 aq s0)=I (HN a0 aq d):=yz (jk5 a0 aq) (fun d=>by rcases d with d|d<;>(intro hh;cases hh)) h
def GX (a0:Option (List qk))(aq:qm):Option Int:=
 jx (bf (GY a0 aq) 0) fun d19=>match d19 with
  | .inl d21=>
   I d21
  | .inr d22=>
   I (-1)
theorem j06 {a0:Option (List qk)}{aq:qm}{r}(h:GX a0 aq=I r):jz pr (X pr) 240 [sl 3 z6 a0,.fn (.func 192) [] [.ah (aE aq)]]=I (Iv r,En):=by
 unfold GX at h
 refine y7 mV ?_
 repeat' first|(replace h:=jy h;obtain⟨d,g,h⟩:=h;with_reducible first|(replace g:=jm2 a0 aq g;rcases d with d|d<;>dsimp only[HM,HN,y8]at g h)|skip)|(replace h:=j6 h;rcases h with⟨g,h⟩|⟨g,h⟩)|fail
 all_goals (cases h<;>(simp only[go_sem,seval,mV, *];exact⟨_,rfl⟩))
def GV (a0:Option (List qk))(aq:qm):Option Bool:=
 jx (GX a0 aq) fun v1=>
 I (decide (0≤v1))
theorem j30 {a0:Option (List qk)}{aq:qm}{r}(h:GV a0 aq=I r):jz pr (X pr) 175 [sl 3 z6 a0,.fn (.func 192) [] [.ah (aE aq)]]=I (.bool r,En):=by
 unfold GV at h
 refine y7 mW ?_
 repeat' first|(replace h:=jy h;obtain⟨d,g,h⟩:=h;with_reducible first|replace g:=j06 g|skip)|(replace h:=j6 h;rcases h with⟨g,h⟩|⟨g,h⟩)|fail
 all_goals (cases h<;>(simp only[go_sem,seval,mW, *];exact⟨_,rfl⟩))
def f187 (a0:ql)(a1:qj):Option Bool:=
 I (decide (a0.k=a1.name))
theorem zd6 (hp:j8){a0:ql}{a1:qj}{r}(h:f187 a0 a1=I r):zg pr (X pr) 187 [aN a0,.ah (aL a1)] hp=I (.bool r,En,hp):=by
 unfold f187 at h
 have hr:decide (a0.k=a1.name)=r:=I.inj h
 subst hr
 rw[zh (show pr.bL 187=I rP from rfl) (by simp)]
 simp only[go_sem,seval,rP]<;>rfl
def NS (a0:Option (List ql))(aq:qj)(s0:Int):Option (Int⊕(Int⊕Int)):=
 cond (decide (s0<((a0.getD []).length:Int)))
  (jx (zp (a0.getD []) s0) fun dz=>
  jx (f187 dz aq) fun dm=>
  cond dm
   (I (.inr (.inl s0)))
   (I (.inl (j9 .i64 (s0+1)))))
  (I (.inr (.inr s0)))
def HO (a0:Option (List ql))(aq:qj)(s0:Int):qg:=⟨[(0,sl 2 aS a0,En),(1,.fn (.func 187) [] [.ah (aL aq)],En),(7,Lv a0,En),(8,Iv s0,En)],[]⟩
def HP (a0:Option (List ql))(aq:qj):Int⊕Int→qo×qg
 | .inl d=>(.ret,⟨[(4,Iv d,En)],[]⟩)
 | .inr d=>(.exit 0,⟨[(0,sl 2 aS a0,En),(1,.fn (.func 187) [] [.ah (aL aq)],En),(7,Lv a0,En),(8,Iv d,En),(9,.bool En,En)],[]⟩)
theorem jp0 (a0:Option (List ql))(aq:qj)(s0:Int)(r)(h:NS a0 aq s0=I r):yo pr HQ (HO a0 aq) (HP a0 aq) s0 r:=by
 unfold NS at h
 repeat' first|(replace h:=jy h;obtain⟨d,g,h⟩:=h;with_reducible first|replace g:=zd6 [] g|skip)|(replace h:=j6 h;rcases h with⟨g,h⟩|⟨g,h⟩)|fail
 all_goals (cases h<;>(first|(refine zy ?_;simp only[go_sem,seval,HQ,HO,zn,HP, *]<;>rfl)|(refine yh ?_;simp only[go_sem,seval,HQ,HO,zn,HP, *]<;>rfl)))
theorem jqd (a0:Option (List ql))(aq:qj){s0:Int}{d}(h:bf (NS a0 aq) s0=I d):X pr (.loop HQ) (HO a0 aq s0)=I (HP a0 aq d):=yz (jp0 a0 aq) (fun d=>by rcases d with d|d<;>(intro hh;cases hh)) h
def f188 (a0:Option (List ql))(aq:qj):Option Int:=
 jx (bf (NS a0 aq) 0) fun d19=>match d19 with
  | .inl d21=>
   I d21
  | .inr d22=>
   I (-1)
theorem jsr {a0:Option (List ql)}{aq:qj}{r}(h:f188 a0 aq=I r):jz pr (X pr) 188 [sl 2 aS a0,.fn (.func 187) [] [.ah (aL aq)]]=I (Iv r,En):=by
 unfold f188 at h
 refine y7 rQ ?_
 repeat' first|(replace h:=jy h;obtain⟨d,g,h⟩:=h;with_reducible first|(replace g:=jqd a0 aq g;rcases d with d|d<;>dsimp only[HO,HP,y8]at g h)|skip)|(replace h:=j6 h;rcases h with⟨g,h⟩|⟨g,h⟩)|fail
 all_goals (cases h<;>(simp only[go_sem,seval,rQ, *];exact⟨_,rfl⟩))
def f191 (a0:Option (List ql))(a1:ql)(dl:qj):Option ((Option (List ql))×Bool):=
 jx (f188 a0 dl) fun v1=>
 cond (decide (0≤v1))
  (jx (jt4 a0 v1 a1) fun v4=>
  I (v4,En))
  (jx (f250 a0 a1) fun v6=>
  I (v6,Gk))
theorem zct {a0:Option (List ql)}{a1:ql}{dl:qj}{r}(h:f191 a0 a1 dl=I r):jz pr (X pr) 191 [sl 2 aS a0,aN a1,.fn (.func 187) [] [.ah (aL dl)]]=I (sl 2 aS r.1,r.2):=by
 unfold f191 at h
 refine eU rR ?_
 repeat' first|(replace h:=jy h;obtain⟨d,g,h⟩:=h; (with_reducible first|replace g:=jsr g|replace g:=jf2 g|replace g:=zby g|skip);try dsimp only[y8,ly,H7,kw,qag,z8,zt,bh,y6,vev,aS,z6,dk,aE,aR,aU,aL,aP,aD]at g)|(replace h:=j6 h;rcases h with⟨g,h⟩|⟨g,h⟩)|fail
 all_goals (cases h<;>(simp only[go_sem,seval,rR, *];exact⟨_,rfl⟩))
end Go.Z
end
