/- Chapter 10. -/
import Derived.Test.YtlhfdilpecnjeaaGreatDoorW1
set_option linter.unusedVariables false
set_option linter.unusedSimpArgs false
set_option maxRecDepth 100000
noncomputable section
open Option renaming some->En,none->H3
open Bool renaming false->E6,true->Hc,and_self->Ia,false_and->Iw
open Nat renaming le_of_ble_eq_true->Ha,ble_eq_true_of_le->H8,beq_refl->Ib,beq->Ig,blt_eq->Io
open List renaming getElem?_eq_some_iff->Hb,replicate->H2,length_set->H4,map->H9,length_map->Ic,drop_eq_nil_of_le->If,take_of_length_le->Ij,nil_append->Ik,all->Il,append_nil->Ip,take_zero->Iq
namespace Go.Z
open Go Go.Abs Go.W
section
variable {p:j8}{xc:XC}{h0:Nat}{al:ak Nat}{e:Env}{h:qf}{α:Type}
structure qU (f:α->AVal)(sz:Nat):Prop where
 len:∀x,(f x).flat.length=sz
 sc:∀x,(f x).flat.all qk=Hc
 ag:∀x,f x=.agg (f x).flat
 ref:∀x,(f x).flat.any MW=Hc
 big:1<sz
variable {f:α->AVal}{sz:Nat}
theorem jlf (E:qU f sz)(l:List α):(zk f l).all qk=Hc:=by
 induction l with
 |nil=>rfl|cons x l ih=>rw[Bw,List.all_append,E.sc,ih];rfl
theorem jcu (E:qU f sz):∀(l:List α),nu sz l.length (zk f l)=l.map f
 | []=>rfl
 |x::l=>by
  have hb:Ig sz 1=E6:=by
   have:=E.big
   cases h:Ig sz 1 with
   |false=>rfl|true=>have:=Nat.eq_of_beq_eq_true h;omega
  have hl:=E.len x;show(bif Ig sz 1 then(zk f (x::l)).headD .undef else .agg ((zk f (x::l)).take sz))::nu sz l.length ((zk f (x::l)).drop sz)=_;rw[hb,cond_false,Bw,List.take_append_of_le_length (by omega),List.drop_append_of_le_length (by omega),Ij (by omega),If (by omega),Ik,jcu E l,<-E.ag];rfl
theorem vQ (E:qU f sz){l}(hl:0<l.length){cs}(hc:cs.map (·.1)=zk f l):OT (En cs) 0 l.length=En (.list E6 sz (l.map f)):=by
 have dU:cs.length=l.length*sz:=by rw[<-Ic (f:=(·.1)),hc,Oq E.len]
 have hdiv:cs.length / l.length=sz:=by rw[dU];exact Nat.mul_div_cancel_left _ hl
 have ZX:cs.any (fun c=>MW c.1)=Hc:=by
  cases l with
  |nil=>cases hl
  |cons x l=>
   have:(cs.map (·.1)).any MW=Hc:=by rw[hc,Bw,List.any_append,E.ref];rfl
   rw[List.any_map]at this;exact this
 have Q:Fp 0 l.length cs=Hc:=by
  have hb:Nat.blt 1 sz=Hc:=Io.mpr E.big;rw[Fp,hdiv,hb,ZX,dU,Ib,Ib];rfl
 unfold OT;simp only[Q,cond_true,hdiv];rw[hc,jcu E]
theorem Dc {r n ZY zero}(hz:zero.length=sz)(G:zero.all qk=Hc)(Y:0<sz)(hn:n<=1073741824)(hb:ZY<=4096){h'}(hh:aO h0 h r (.cells (cellsOf (H2 n zero).flatten))=En h'):
  vD h0 r sz ZY zero h (En (Iv (n:Int))) (En (Iv (n:Int)))=En ⟨.ms (h0+r) 0 n,E6,H3,h'⟩:=by
 show(bif Ig n n&&Nat.ble n 1073741824&&Nat.ble ZY 4096&&Ig zero.length sz&&Nat.blt 0 sz&&zero.all qk then _ else _)=_;rw[Ib,H8 hn,H8 hb,hz,Ib,Io.mpr Y,G];simp only[Ia,cond_true,hh];rfl
theorem Dd (E:qU f sz){b l cs}(hb:h[b]?=En (.cells cs))(hc:cs.length=(l.getD []).length*sz)(dF:zf h0 al b=Hc):
  xf h0 al sz h (En (.ms b 0 (l.getD []).length)) (En (sl sz f l))=En ⟨Lv l,E6,H3,h.set b (.cells (bQ f (l.getD [])))⟩:=by
 have jN:qw h b=En cs:=by rw[jap,hb];rfl
 have bg:=(Hb.1 hb).1
 have cT:AA sz (l.getD []).length (sl sz f l)=En ((l.getD []).length,zk f (l.getD [])):=by
  cases l with
  |none=>simp[sl,AA,zk]
  |some l=>
   show(bif Ig sz sz||(l.map f).isEmpty then En (min (l.map f).length l.length,((l.map f).take l.length).flatMap AVal.flat)else H3)=_;rw[Ib,Ic,Nat.min_self,Ij (by rw[Ic];exact Nat.le_refl _)];rfl
 have Nk:(zk f (l.getD [])).length=(l.getD []).length*sz:=Oq E.len _
 have ct:jw cs 0 (zk f (l.getD []))=En (bQ f (l.getD [])):=by
  unfold jw;rw[jlf E,Nk,hc,H8 (by omega)];simp only[Ia,cond_true,Iq,Ik];rw[If (by rw[hc];omega),Ip];rfl
 have bK:j0 h b (.cells (bQ f (l.getD [])))=En (h.set b (.cells (bQ f (l.getD [])))):=by
  simp only[j0,Io.mpr bg,cond_true]
 show(bif zf h0 al b then(match qw h b with
   |some cs=>(match AA sz (l.getD []).length (sl sz f l)with
    |some (n,vs)=>(match jw cs 0 vs with
     |some eF=>bif Ig vs.length (n*sz)then(match j0 h b (.cells eF)with
      |some h'=>val h' (Iv n)
      |none=>H3)else H3
     |none=>H3)
    |none=>H3)
   |none=>H3)else H3)=_
 rw[dF,jN,cT];simp only[cond_true,ct,Nk,Ib,bK];rfl
theorem vR {b n i k}(hi:i<n):mr sz h (En (.ms b 0 n)) (En (.int k (i:Int)))=En ⟨.ptr b (i*sz),E6,H3,h⟩:=by
 have:idx n (.int k (i:Int))=En i:=by rw[vd];exact N6 hi
 simp only[mr,this,Nat.zero_add];rfl
end
end Go.Z
set_option maxHeartbeats 4000000
namespace Go.Z
open Go Go.Abs Go.W
theorem gA:qU je 5:=⟨fun _=>rfl,fun _=>rfl,fun _=>rfl,fun _=>rfl,by omega⟩
theorem qV:qU bA 2:=⟨fun _=>rfl,fun _=>rfl,fun _=>rfl,fun _=>rfl,by omega⟩
theorem tU:qU jc 3:=⟨fun _=>rfl,fun _=>rfl,fun _=>rfl,fun _=>rfl,by omega⟩
theorem cK:qU qv 4:=⟨fun _=>rfl,fun _=>by simp only[go_sem,seval,jdv]<;>simp only[Il,go_sem],fun _=>rfl,fun _=>rfl,by omega⟩
theorem eo:qU bE 8:=⟨fun _=>rfl,fun _=>by simp only[go_sem,seval,jm7]<;>simp only[Il,go_sem],fun _=>rfl,fun _=>rfl,by omega⟩
theorem zep {j caps l i cs}(hlen:(l.getD []).length<=1073741824)(hi:i<(l.getD []).length)(dU:ai pr (X pr) j (.ptr 0 (i*4)::caps) [.cells (bQ qv (l.getD []))]=En (.aJ [],E6,[.cells cs])):ai pr (X pr) 182 [sl 4 qv l,Iv (i:Int),.fn (.func j) [] caps] []=En (.ms 0 0 ((l.getD []).length),E6,[.cells cs]):=by
 rw[qg (show pr.br 182=En De from rfl) (by simp)]
 have qW:vD 0 0 4 88 [(.str []),(Nl),(Nl),(Nl)] [.hole] (En (Lv l)) (En (Lv l))=En ⟨.ms 0 0 (l.getD []).length,E6,H3,[.cells (cellsOf (H2 (l.getD []).length [(.str []),(Nl),(Nl),(Nl)]).flatten)]⟩:=by apply Dc<;>first|exact hlen|rfl|decide
 have qX:xf 1 H3 4 [.cells (cellsOf (H2 (l.getD []).length [(.str []),(Nl),(Nl),(Nl)]).flatten)] (En (.ms 0 0 (l.getD []).length)) (En (sl 4 qv l))=En ⟨Lv l,E6,H3,[.cells (bQ qv (l.getD []))]⟩:=Dd cK rfl (by simp[cellsOf]) rfl;simp only[go_sem,seval,De,qW,qX,vR hi,dU]<;>rfl
theorem j76{y:bp} {j:Nat} {caps:List AVal} {l:ak bp} {i:Nat} {cs:List (AVal×Bool)} (hlen:(l.getD []).length<=1073741824) (hi:i<(l.getD []).length) (dU:ai pr (X pr) j (.ptr 0 (i*4)::caps) [.cells (bQ qv (l.getD []))]=En (.aJ [],E6,[.cells cs])) (hcs:cs.map (·.1)=zk qv ((l.getD []).set i y)):ae pr (X pr) 182 [sl 4 qv l,Iv (i:Int),.fn (.func j) [] caps]=En (sl 4 qv (En ((l.getD []).set i y)),E6):=by
 have hl:((l.getD []).set i y).length=(l.getD []).length:=H4
 have hz:aX [.cells cs] (.ms 0 0 ((l.getD []).length))=En (sl 4 qv (En ((l.getD []).set i y))):=by
  rw[Gs,<-hl];exact vQ cK (by rw[hl];omega) hcs
 exact jr rfl (zep hlen hi dU) hz (by first|rfl|simp only[go_sem,seval])
theorem zcr {j caps l i cs}(hlen:(l.getD []).length<=1073741824)(hi:i<(l.getD []).length)(dU:ai pr (X pr) j (.ptr 0 (i*5)::caps) [.cells (bQ je (l.getD []))]=En (.aJ [],E6,[.cells cs])):ai pr (X pr) 188 [sl 5 je l,Iv (i:Int),.fn (.func j) [] caps] []=En (.ms 0 0 ((l.getD []).length),E6,[.cells cs]):=by
 rw[qg (show pr.br 188=En Df from rfl) (by simp)]
 have qW:vD 0 0 5 56 [(.str []),(.str []),(Iv 0),(Iv 0),(.bool E6)] [.hole] (En (Lv l)) (En (Lv l))=En ⟨.ms 0 0 (l.getD []).length,E6,H3,[.cells (cellsOf (H2 (l.getD []).length [(.str []),(.str []),(Iv 0),(Iv 0),(.bool E6)]).flatten)]⟩:=by apply Dc<;>first|exact hlen|rfl|decide
 have qX:xf 1 H3 5 [.cells (cellsOf (H2 (l.getD []).length [(.str []),(.str []),(Iv 0),(Iv 0),(.bool E6)]).flatten)] (En (.ms 0 0 (l.getD []).length)) (En (sl 5 je l))=En ⟨Lv l,E6,H3,[.cells (bQ je (l.getD []))]⟩:=Dd gA rfl (by simp[cellsOf]) rfl;simp only[go_sem,seval,Df,qW,qX,vR hi,dU]<;>rfl
theorem j4x{y:ji} {j:Nat} {caps:List AVal} {l:ak ji} {i:Nat} {cs:List (AVal×Bool)} (hlen:(l.getD []).length<=1073741824) (hi:i<(l.getD []).length) (dU:ai pr (X pr) j (.ptr 0 (i*5)::caps) [.cells (bQ je (l.getD []))]=En (.aJ [],E6,[.cells cs])) (hcs:cs.map (·.1)=zk je ((l.getD []).set i y)):ae pr (X pr) 188 [sl 5 je l,Iv (i:Int),.fn (.func j) [] caps]=En (sl 5 je (En ((l.getD []).set i y)),E6):=by
 have hl:((l.getD []).set i y).length=(l.getD []).length:=H4
 have hz:aX [.cells cs] (.ms 0 0 ((l.getD []).length))=En (sl 5 je (En ((l.getD []).set i y))):=by
  rw[Gs,<-hl];exact vQ gA (by rw[hl];omega) hcs
 exact jr rfl (zcr hlen hi dU) hz (by first|rfl|simp only[go_sem,seval])
theorem zgk {j caps l i cs}(hlen:(l.getD []).length<=1073741824)(hi:i<(l.getD []).length)(dU:ai pr (X pr) j (.ptr 0 (i*8)::caps) [.cells (bQ bE (l.getD []))]=En (.aJ [],E6,[.cells cs])):ai pr (X pr) 192 [sl 8 bE l,Iv (i:Int),.fn (.func j) [] caps] []=En (.ms 0 0 ((l.getD []).length),E6,[.cells cs]):=by
 rw[qg (show pr.br 192=En tV from rfl) (by simp)]
 have qW:vD 0 0 8 120 [(.str []),(.str []),(Iv 0),(Nl),(Nl),(.str []),(.bool E6),(Iv 0)] [.hole] (En (Lv l)) (En (Lv l))=En ⟨.ms 0 0 (l.getD []).length,E6,H3,[.cells (cellsOf (H2 (l.getD []).length [(.str []),(.str []),(Iv 0),(Nl),(Nl),(.str []),(.bool E6),(Iv 0)]).flatten)]⟩:=by apply Dc<;>first|exact hlen|rfl|decide
 have qX:xf 1 H3 8 [.cells (cellsOf (H2 (l.getD []).length [(.str []),(.str []),(Iv 0),(Nl),(Nl),(.str []),(.bool E6),(Iv 0)]).flatten)] (En (.ms 0 0 (l.getD []).length)) (En (sl 8 bE l))=En ⟨Lv l,E6,H3,[.cells (bQ bE (l.getD []))]⟩:=Dd eo rfl (by simp[cellsOf]) rfl;simp only[go_sem,seval,tV,qW,qX,vR hi,dU]<;>rfl
theorem j5s{y:bw} {j:Nat} {caps:List AVal} {l:ak bw} {i:Nat} {cs:List (AVal×Bool)} (hlen:(l.getD []).length<=1073741824) (hi:i<(l.getD []).length) (dU:ai pr (X pr) j (.ptr 0 (i*8)::caps) [.cells (bQ bE (l.getD []))]=En (.aJ [],E6,[.cells cs])) (hcs:cs.map (·.1)=zk bE ((l.getD []).set i y)):ae pr (X pr) 192 [sl 8 bE l,Iv (i:Int),.fn (.func j) [] caps]=En (sl 8 bE (En ((l.getD []).set i y)),E6):=by
 have hl:((l.getD []).set i y).length=(l.getD []).length:=H4
 have hz:aX [.cells cs] (.ms 0 0 ((l.getD []).length))=En (sl 8 bE (En ((l.getD []).set i y))):=by
  rw[Gs,<-hl];exact vQ eo (by rw[hl];omega) hcs
 exact jr rfl (zgk hlen hi dU) hz (by first|rfl|simp only[go_sem,seval])
theorem jqw {b0 b1 b2 b3 b4 j caps l i cs}(hlen:(l.getD []).length<=1073741824)(hi:i<(l.getD []).length)(dU:ai pr (X pr) j (.ptr 5 (i*8)::caps) [b0,b1,b2,b3,b4,.cells (bQ bE (l.getD []))]=En (.aJ [],E6,[b0,b1,b2,b3,b4,.cells cs])):ai pr (X pr) 192 [sl 8 bE l,Iv (i:Int),.fn (.func j) [] caps] [b0,b1,b2,b3,b4]=En (.ms 5 0 ((l.getD []).length),E6,[b0,b1,b2,b3,b4,.cells cs]):=by
 rw[qg (show pr.br 192=En tV from rfl) (by simp)]
 have qW:vD 5 0 8 120 [(.str []),(.str []),(Iv 0),(Nl),(Nl),(.str []),(.bool E6),(Iv 0)] [b0,b1,b2,b3,b4,.hole] (En (Lv l)) (En (Lv l))=En ⟨.ms 5 0 (l.getD []).length,E6,H3,[b0,b1,b2,b3,b4,.cells (cellsOf (H2 (l.getD []).length [(.str []),(.str []),(Iv 0),(Nl),(Nl),(.str []),(.bool E6),(Iv 0)]).flatten)]⟩:=by apply Dc<;>first|exact hlen|rfl|decide
 have qX:xf 6 H3 8 [b0,b1,b2,b3,b4,.cells (cellsOf (H2 (l.getD []).length [(.str []),(.str []),(Iv 0),(Nl),(Nl),(.str []),(.bool E6),(Iv 0)]).flatten)] (En (.ms 5 0 (l.getD []).length)) (En (sl 8 bE l))=En ⟨Lv l,E6,H3,[b0,b1,b2,b3,b4,.cells (bQ bE (l.getD []))]⟩:=Dd eo rfl (by simp[cellsOf]) rfl;simp only[go_sem,seval,tV,qW,qX,vR hi,dU]<;>rfl
theorem zg8 {j caps l i cs}(hlen:(l.getD []).length<=1073741824)(hi:i<(l.getD []).length)(dU:ai pr (X pr) j (.ptr 0 (i*2)::caps) [.cells (bQ bA (l.getD []))]=En (.aJ [],E6,[.cells cs])):ai pr (X pr) 230 [sl 2 bA l,Iv (i:Int),.fn (.func j) [] caps] []=En (.ms 0 0 ((l.getD []).length),E6,[.cells cs]):=by
 rw[qg (show pr.br 230=En Dg from rfl) (by simp)]
 have qW:vD 0 0 2 24 [(.str []),(Iv 0)] [.hole] (En (Lv l)) (En (Lv l))=En ⟨.ms 0 0 (l.getD []).length,E6,H3,[.cells (cellsOf (H2 (l.getD []).length [(.str []),(Iv 0)]).flatten)]⟩:=by apply Dc<;>first|exact hlen|rfl|decide
 have qX:xf 1 H3 2 [.cells (cellsOf (H2 (l.getD []).length [(.str []),(Iv 0)]).flatten)] (En (.ms 0 0 (l.getD []).length)) (En (sl 2 bA l))=En ⟨Lv l,E6,H3,[.cells (bQ bA (l.getD []))]⟩:=Dd qV rfl (by simp[cellsOf]) rfl;simp only[go_sem,seval,Dg,qW,qX,vR hi,dU]<;>rfl
theorem j8h{y:bD} {j:Nat} {caps:List AVal} {l:ak bD} {i:Nat} {cs:List (AVal×Bool)} (hlen:(l.getD []).length<=1073741824) (hi:i<(l.getD []).length) (dU:ai pr (X pr) j (.ptr 0 (i*2)::caps) [.cells (bQ bA (l.getD []))]=En (.aJ [],E6,[.cells cs])) (hcs:cs.map (·.1)=zk bA ((l.getD []).set i y)):ae pr (X pr) 230 [sl 2 bA l,Iv (i:Int),.fn (.func j) [] caps]=En (sl 2 bA (En ((l.getD []).set i y)),E6):=by
 have hl:((l.getD []).set i y).length=(l.getD []).length:=H4
 have hz:aX [.cells cs] (.ms 0 0 ((l.getD []).length))=En (sl 2 bA (En ((l.getD []).set i y))):=by
  rw[Gs,<-hl];exact vQ qV (by rw[hl];omega) hcs
 exact jr rfl (zg8 hlen hi dU) hz (by first|rfl|simp only[go_sem,seval])
theorem zf2 {j caps l i cs}(hlen:(l.getD []).length<=1073741824)(hi:i<(l.getD []).length)(dU:ai pr (X pr) j (.ptr 0 (i*3)::caps) [.cells (bQ jc (l.getD []))]=En (.aJ [],E6,[.cells cs])):ai pr (X pr) 234 [sl 3 jc l,Iv (i:Int),.fn (.func j) [] caps] []=En (.ms 0 0 ((l.getD []).length),E6,[.cells cs]):=by
 rw[qg (show pr.br 234=En Dh from rfl) (by simp)]
 have qW:vD 0 0 3 32 [(.str []),(Iv 0),(Iv 0)] [.hole] (En (Lv l)) (En (Lv l))=En ⟨.ms 0 0 (l.getD []).length,E6,H3,[.cells (cellsOf (H2 (l.getD []).length [(.str []),(Iv 0),(Iv 0)]).flatten)]⟩:=by apply Dc<;>first|exact hlen|rfl|decide
 have qX:xf 1 H3 3 [.cells (cellsOf (H2 (l.getD []).length [(.str []),(Iv 0),(Iv 0)]).flatten)] (En (.ms 0 0 (l.getD []).length)) (En (sl 3 jc l))=En ⟨Lv l,E6,H3,[.cells (bQ jc (l.getD []))]⟩:=Dd tU rfl (by simp[cellsOf]) rfl;simp only[go_sem,seval,Dh,qW,qX,vR hi,dU]<;>rfl
theorem j7m{y:jg} {j:Nat} {caps:List AVal} {l:ak jg} {i:Nat} {cs:List (AVal×Bool)} (hlen:(l.getD []).length<=1073741824) (hi:i<(l.getD []).length) (dU:ai pr (X pr) j (.ptr 0 (i*3)::caps) [.cells (bQ jc (l.getD []))]=En (.aJ [],E6,[.cells cs])) (hcs:cs.map (·.1)=zk jc ((l.getD []).set i y)):ae pr (X pr) 234 [sl 3 jc l,Iv (i:Int),.fn (.func j) [] caps]=En (sl 3 jc (En ((l.getD []).set i y)),E6):=by
 have hl:((l.getD []).set i y).length=(l.getD []).length:=H4
 have hz:aX [.cells cs] (.ms 0 0 ((l.getD []).length))=En (sl 3 jc (En ((l.getD []).set i y))):=by
  rw[Gs,<-hl];exact vQ tU (by rw[hl];omega) hcs
 exact jr rfl (zf2 hlen hi dU) hz (by first|rfl|simp only[go_sem,seval])
theorem zhm {j caps l i cs}(hlen:(l.getD []).length<=1073741824)(hi:i<(l.getD []).length)(dU:ai pr (X pr) j (.ptr 0 (i*2)::caps) [.cells (bQ bA (l.getD []))]=En (.aJ [],E6,[.cells cs])):ai pr (X pr) 241 [sl 2 bA l,Iv (i:Int),.fn (.func j) [] caps] []=En (.ms 0 0 ((l.getD []).length),E6,[.cells cs]):=by
 rw[qg (show pr.br 241=En Di from rfl) (by simp)]
 have qW:vD 0 0 2 24 [(.str []),(Iv 0)] [.hole] (En (Lv l)) (En (Lv l))=En ⟨.ms 0 0 (l.getD []).length,E6,H3,[.cells (cellsOf (H2 (l.getD []).length [(.str []),(Iv 0)]).flatten)]⟩:=by apply Dc<;>first|exact hlen|rfl|decide
 have qX:xf 1 H3 2 [.cells (cellsOf (H2 (l.getD []).length [(.str []),(Iv 0)]).flatten)] (En (.ms 0 0 (l.getD []).length)) (En (sl 2 bA l))=En ⟨Lv l,E6,H3,[.cells (bQ bA (l.getD []))]⟩:=Dd qV rfl (by simp[cellsOf]) rfl;simp only[go_sem,seval,Di,qW,qX,vR hi,dU]<;>rfl
theorem j87{y:bD} {j:Nat} {caps:List AVal} {l:ak bD} {i:Nat} {cs:List (AVal×Bool)} (hlen:(l.getD []).length<=1073741824) (hi:i<(l.getD []).length) (dU:ai pr (X pr) j (.ptr 0 (i*2)::caps) [.cells (bQ bA (l.getD []))]=En (.aJ [],E6,[.cells cs])) (hcs:cs.map (·.1)=zk bA ((l.getD []).set i y)):ae pr (X pr) 241 [sl 2 bA l,Iv (i:Int),.fn (.func j) [] caps]=En (sl 2 bA (En ((l.getD []).set i y)),E6):=by
 have hl:((l.getD []).set i y).length=(l.getD []).length:=H4
 have hz:aX [.cells cs] (.ms 0 0 ((l.getD []).length))=En (sl 2 bA (En ((l.getD []).set i y))):=by
  rw[Gs,<-hl];exact vQ qV (by rw[hl];omega) hcs
 exact jr rfl (zhm hlen hi dU) hz (by first|rfl|simp only[go_sem,seval])
end Go.Z
namespace Go.Z
open Go Go.Abs Go.W
def gu {α:Type}(l:Option (List α))(i:Int)(g:α->Option α):Option (Option (List α)):=
 if(l.getD []).length<=1073741824/\0<=i then(match(l.getD [])[i.toNat]? with
  |some x=>(match g x with
   |some y=>En (En ((l.getD []).set i.toNat y))
   |none=>H3)
  |none=>H3)else H3
theorem Ar {α:Type}{l i g r}(h:gu l i g=En r):∃(n:Nat) (x y:α),i=(n:Int)/\(l.getD []).length<=1073741824/\(l.getD [])[n]?=En x/\g x=En y/\r=En ((l.getD []).set n y):=by
 unfold gu at h;split at h
 .rename_i hc;split at h
  .rename_i x M;split at h
   .rename_i y hy;cases h;exact⟨i.toNat,x,y,(Int.toNat_of_nonneg hc.2).symm,hc.1,M,hy,rfl⟩
   .cases h
  .cases h
 .cases h
theorem ZZ {l r i g j caps}(dU:∀(n:Nat) (x y:bp),(l.getD [])[n]?=En x->g x=En y->∃cs,ai pr (X pr) j (.ptr 0 (n*4)::caps) [.cells (bQ qv (l.getD []))]=En (.aJ [],E6,[.cells cs])/\cs.map (·.1)=zk qv ((l.getD []).set n y))(h:gu l i g=En r):ae pr (X pr) 182 [sl 4 qv l,Iv i,.fn (.func j) [] caps]=En (sl 4 qv r,E6):=by
 obtain⟨n,x,y,rfl,hl,M,hy,rfl⟩:=Ar h;obtain⟨cs,Y,I⟩:=dU n x y M hy;exact j76 hl (Hb.1 M).1 Y I
theorem Z1 {l r i g j caps}(dU:∀(n:Nat) (x y:ji),(l.getD [])[n]?=En x->g x=En y->∃cs,ai pr (X pr) j (.ptr 0 (n*5)::caps) [.cells (bQ je (l.getD []))]=En (.aJ [],E6,[.cells cs])/\cs.map (·.1)=zk je ((l.getD []).set n y))(h:gu l i g=En r):ae pr (X pr) 188 [sl 5 je l,Iv i,.fn (.func j) [] caps]=En (sl 5 je r,E6):=by
 obtain⟨n,x,y,rfl,hl,M,hy,rfl⟩:=Ar h;obtain⟨cs,Y,I⟩:=dU n x y M hy;exact j4x hl (Hb.1 M).1 Y I
theorem Hr {l r i g j caps}(dU:∀(n:Nat) (x y:bw),(l.getD [])[n]?=En x->g x=En y->∃cs,ai pr (X pr) j (.ptr 0 (n*8)::caps) [.cells (bQ bE (l.getD []))]=En (.aJ [],E6,[.cells cs])/\cs.map (·.1)=zk bE ((l.getD []).set n y))(h:gu l i g=En r):ae pr (X pr) 192 [sl 8 bE l,Iv i,.fn (.func j) [] caps]=En (sl 8 bE r,E6):=by
 obtain⟨n,x,y,rfl,hl,M,hy,rfl⟩:=Ar h;obtain⟨cs,Y,I⟩:=dU n x y M hy;exact j5s hl (Hb.1 M).1 Y I
theorem j7z {l r i g j caps}(dU:∀(n:Nat) (x y:bD),(l.getD [])[n]?=En x->g x=En y->∃cs,ai pr (X pr) j (.ptr 0 (n*2)::caps) [.cells (bQ bA (l.getD []))]=En (.aJ [],E6,[.cells cs])/\cs.map (·.1)=zk bA ((l.getD []).set n y))(h:gu l i g=En r):ae pr (X pr) 230 [sl 2 bA l,Iv i,.fn (.func j) [] caps]=En (sl 2 bA r,E6):=by
 obtain⟨n,x,y,rfl,hl,M,hy,rfl⟩:=Ar h;obtain⟨cs,Y,I⟩:=dU n x y M hy;exact j8h hl (Hb.1 M).1 Y I
theorem j8q {l r i g j caps}(dU:∀(n:Nat) (x y:jg),(l.getD [])[n]?=En x->g x=En y->∃cs,ai pr (X pr) j (.ptr 0 (n*3)::caps) [.cells (bQ jc (l.getD []))]=En (.aJ [],E6,[.cells cs])/\cs.map (·.1)=zk jc ((l.getD []).set n y))(h:gu l i g=En r):ae pr (X pr) 234 [sl 3 jc l,Iv i,.fn (.func j) [] caps]=En (sl 3 jc r,E6):=by
 obtain⟨n,x,y,rfl,hl,M,hy,rfl⟩:=Ar h;obtain⟨cs,Y,I⟩:=dU n x y M hy;exact j7m hl (Hb.1 M).1 Y I
theorem j8z {l r i g j caps}(dU:∀(n:Nat) (x y:bD),(l.getD [])[n]?=En x->g x=En y->∃cs,ai pr (X pr) j (.ptr 0 (n*2)::caps) [.cells (bQ bA (l.getD []))]=En (.aJ [],E6,[.cells cs])/\cs.map (·.1)=zk bA ((l.getD []).set n y))(h:gu l i g=En r):ae pr (X pr) 241 [sl 2 bA l,Iv i,.fn (.func j) [] caps]=En (sl 2 bA r,E6):=by
 obtain⟨n,x,y,rfl,hl,M,hy,rfl⟩:=Ar h;obtain⟨cs,Y,I⟩:=dU n x y M hy;exact j87 hl (Hb.1 M).1 Y I
theorem zgs {l i x}(M:l[i]?=En x):ai pr (X pr) 202 [.ptr 0 (i*5)] [.cells (bQ je l)]=En (.aJ [],E6,[.cells (bQ je (l.set i { x with held:=Hc }))]):=by
 rw[qg (show pr.br 202=En Dj from rfl) (by simp)];have st:jw (bQ je l) (i*5+4) [.bool Hc]=En (bQ je (l.set i { x with held:=Hc })):=nC (o:=4) gA.len M (Ha rfl) rfl rfl;simp only[go_sem,seval,Dj,st]<;>rfl
def V7 (l:ak ji)(i:Int):Option (ak ji):=gu l i fun x=>En { x with held:=Hc }
theorem jo7 {l i r}(h:V7 l i=En r):ae pr (X pr) 188 [sl 5 je l,Iv i,.fn (.func 202) [] []]=En (sl 5 je r,E6):=
 Z1 (fun n x y M hy=>by cases hy;exact⟨_,zgs M,yb⟩) h
theorem zcz {l i x}(M:l[i]?=En x):ai pr (X pr) 203 [.ptr 0 (i*5)] [.cells (bQ je l)]=En (.aJ [],E6,[.cells (bQ je (l.set i { x with held:=E6 }))]):=by
 rw[qg (show pr.br 203=En Dk from rfl) (by simp)];have st:jw (bQ je l) (i*5+4) [.bool E6]=En (bQ je (l.set i { x with held:=E6 })):=nC (o:=4) gA.len M (Ha rfl) rfl rfl;simp only[go_sem,seval,Dk,st]<;>rfl
def V8 (l:ak ji)(i:Int):Option (ak ji):=gu l i fun x=>En { x with held:=E6 }
theorem jkx {l i r}(h:V8 l i=En r):ae pr (X pr) 188 [sl 5 je l,Iv i,.fn (.func 203) [] []]=En (sl 5 je r,E6):=
 Z1 (fun n x y M hy=>by cases hy;exact⟨_,zcz M,yb⟩) h
theorem zff {l i x}(M:l[i]?=En x):ai pr (X pr) 205 [.ptr 0 (i*8)] [.cells (bQ bE l)]=En (.aJ [],E6,[.cells (bQ bE (l.set i { x with ax:=Hc }))]):=by
 rw[qg (show pr.br 205=En Dl from rfl) (by simp)];have st:jw (bQ bE l) (i*8+6) [.bool Hc]=En (bQ bE (l.set i { x with ax:=Hc })):=nC (o:=6) eo.len M (Ha rfl) rfl rfl;simp only[go_sem,seval,Dl,st]<;>rfl
def Wb (l:ak bw)(i:Int):Option (ak bw):=gu l i fun x=>En { x with ax:=Hc }
theorem jpa {l i r}(h:Wb l i=En r):ae pr (X pr) 192 [sl 8 bE l,Iv i,.fn (.func 205) [] []]=En (sl 8 bE r,E6):=
 Hr (fun n x y M hy=>by cases hy;exact⟨_,zff M,yb⟩) h
theorem zfp {l i x}(M:l[i]?=En x):ai pr (X pr) 206 [.ptr 0 (i*8)] [.cells (bQ bE l)]=En (.aJ [],E6,[.cells (bQ bE (l.set i { x with au:=qd .i64 (x.au+1) }))]):=by
 rw[qg (show pr.br 206=En Dm from rfl) (by simp)];have st:jw (bQ bE l) (i*8+7) [Iv (qd .i64 (x.au+1))]=En (bQ bE (l.set i { x with au:=qd .i64 (x.au+1) })):=nC (o:=7) eo.len M (Ha rfl) rfl rfl;have Z2:zt (bQ bE l) (i*8+7) 1=En [Iv x.au]:=wO (o:=7) eo.len M (by decide);simp only[go_sem,seval,Dm,st,Z2]<;>rfl
def Wc (l:ak bw)(i:Int):Option (ak bw):=gu l i fun x=>En { x with au:=qd .i64 (x.au+1) }
theorem jm2 {l i r}(h:Wc l i=En r):ae pr (X pr) 192 [sl 8 bE l,Iv i,.fn (.func 206) [] []]=En (sl 8 bE r,E6):=
 Hr (fun n x y M hy=>by cases hy;exact⟨_,zfp M,yb⟩) h
theorem zd6 {l i x v}(M:l[i]?=En x):ai pr (X pr) 199 [.ptr 0 (i*8),.aq (Iv v)] [.cells (bQ bE l)]=En (.aJ [],E6,[.cells (bQ bE (l.set i { x with version:=v }))]):=by
 rw[qg (show pr.br 199=En Dn from rfl) (by simp)];have st:jw (bQ bE l) (i*8+2) [Iv v]=En (bQ bE (l.set i { x with version:=v })):=nC (o:=2) eo.len M (Ha rfl) rfl rfl;simp only[go_sem,seval,Dn,st]<;>rfl
def Wa (l:ak bw)(i:Int)(v:Int):Option (ak bw):=gu l i fun x=>En { x with version:=v }
theorem jok {l i v r}(h:Wa l i v=En r):ae pr (X pr) 192 [sl 8 bE l,Iv i,.fn (.func 199) [] [.aq (Iv v)]]=En (sl 8 bE r,E6):=
 Hr (fun n x y M hy=>by cases hy;exact⟨_,zd6 M,yb⟩) h
theorem zfd {l i x b}(M:l[i]?=En x):ai pr (X pr) 200 [.ptr 0 (i*8),.aq (bE b)] [.cells (bQ bE l)]=En (.aJ [],E6,[.cells (bQ bE (l.set i { x with partner:=b.name }))]):=by
 rw[qg (show pr.br 200=En Dp from rfl) (by simp)];have st:jw (bQ bE l) (i*8+5) [.str b.name]=En (bQ bE (l.set i { x with partner:=b.name })):=nC (o:=5) eo.len M (Ha rfl) rfl rfl;simp only[go_sem,seval,Dp,st,bE]<;>rfl
def vt (l:ak bw)(i:Int)(b:bw):Option (ak bw):=gu l i fun x=>En { x with partner:=b.name }
theorem jlw {l i b r}(h:vt l i b=En r):ae pr (X pr) 192 [sl 8 bE l,Iv i,.fn (.func 200) [] [.aq (bE b)]]=En (sl 8 bE r,E6):=
 Hr (fun n x y M hy=>by cases hy;exact⟨_,zfd M,yb⟩) h
theorem zjn {l i x b}(M:l[i]?=En x):ai pr (X pr) 201 [.ptr 0 (i*8),.aq (bE b)] [.cells (bQ bE l)]=En (.aJ [],E6,[.cells (bQ bE (l.set i { x with partner:=b.name }))]):=by
 rw[qg (show pr.br 201=En Dq from rfl) (by simp)];have st:jw (bQ bE l) (i*8+5) [.str b.name]=En (bQ bE (l.set i { x with partner:=b.name })):=nC (o:=5) eo.len M (Ha rfl) rfl rfl;simp only[go_sem,seval,Dq,st,bE]<;>rfl
def vu (l:ak bw)(i:Int)(b:bw):Option (ak bw):=gu l i fun x=>En { x with partner:=b.name }
theorem jol {l i b r}(h:vu l i b=En r):ae pr (X pr) 192 [sl 8 bE l,Iv i,.fn (.func 201) [] [.aq (bE b)]]=En (sl 8 bE r,E6):=
 Hr (fun n x y M hy=>by cases hy;exact⟨_,zjn M,yb⟩) h
theorem zhl {l i x v}(M:l[i]?=En x):ai pr (X pr) 189 [.ptr 0 (i*5),.aq (Iv v)] [.cells (bQ je l)]=En (.aJ [],E6,[.cells (bQ je (l.set i { x with left:=qd .i64 (x.left-v) }))]):=by
 rw[qg (show pr.br 189=En Dr from rfl) (by simp)];have st:jw (bQ je l) (i*5+3) [Iv (qd .i64 (x.left-v))]=En (bQ je (l.set i { x with left:=qd .i64 (x.left-v) })):=nC (o:=3) gA.len M (Ha rfl) rfl rfl;have Z2:zt (bQ je l) (i*5+3) 1=En [Iv x.left]:=wO (o:=3) gA.len M (by decide);simp only[go_sem,seval,Dr,st,Z2]<;>rfl
def Wf (l:ak ji)(i:Int)(v:Int):Option (ak ji):=gu l i fun x=>En { x with left:=qd .i64 (x.left-v) }
theorem jov {l i v r}(h:Wf l i v=En r):ae pr (X pr) 188 [sl 5 je l,Iv i,.fn (.func 189) [] [.aq (Iv v)]]=En (sl 5 je r,E6):=
 Z1 (fun n x y M hy=>by cases hy;exact⟨_,zhl M,yb⟩) h
theorem zgu {l i x b}(M:l[i]?=En x):ai pr (X pr) 231 [.ptr 0 (i*2),.aq (bA b)] [.cells (bQ bA l)]=En (.aJ [],E6,[.cells (bQ bA (l.set i b))]):=by
 rw[qg (show pr.br 231=En Ds from rfl) (by simp)];have st:jw (bQ bA l) (i*2) [.str b.k,Iv b.n]=En (bQ bA (l.set i b)):=nC (o:=0) qV.len M (Ha rfl) rfl rfl;simp only[go_sem,seval,Ds,st,bA]<;>rfl
def jy9 (l:ak bD)(i:Int)(b:bD):Option (ak bD):=gu l i fun x=>En b
theorem jn6 {l i b r}(h:jy9 l i b=En r):ae pr (X pr) 230 [sl 2 bA l,Iv i,.fn (.func 231) [] [.aq (bA b)]]=En (sl 2 bA r,E6):=
 j7z (fun n x y M hy=>by cases hy;exact⟨_,zgu M,yb⟩) h
theorem zkp {l i x b}(M:l[i]?=En x):ai pr (X pr) 235 [.ptr 0 (i*3),.aq (jc b)] [.cells (bQ jc l)]=En (.aJ [],E6,[.cells (bQ jc (l.set i b))]):=by
 rw[qg (show pr.br 235=En Dt from rfl) (by simp)];have st:jw (bQ jc l) (i*3) [.str b.k,Iv b.a,Iv b.b]=En (bQ jc (l.set i b)):=nC (o:=0) tU.len M (Ha rfl) rfl rfl;simp only[go_sem,seval,Dt,st,jc]<;>rfl
def jwf (l:ak jg)(i:Int)(b:jg):Option (ak jg):=gu l i fun x=>En b
theorem jqi {l i b r}(h:jwf l i b=En r):ae pr (X pr) 234 [sl 3 jc l,Iv i,.fn (.func 235) [] [.aq (jc b)]]=En (sl 3 jc r,E6):=
 j8q (fun n x y M hy=>by cases hy;exact⟨_,zkp M,yb⟩) h
theorem zil {l i x b}(M:l[i]?=En x):ai pr (X pr) 242 [.ptr 0 (i*2),.aq (bA b)] [.cells (bQ bA l)]=En (.aJ [],E6,[.cells (bQ bA (l.set i b))]):=by
 rw[qg (show pr.br 242=En Du from rfl) (by simp)];have st:jw (bQ bA l) (i*2) [.str b.k,Iv b.n]=En (bQ bA (l.set i b)):=nC (o:=0) qV.len M (Ha rfl) rfl rfl;simp only[go_sem,seval,Du,st,bA]<;>rfl
def jy8 (l:ak bD)(i:Int)(b:bD):Option (ak bD):=gu l i fun x=>En b
theorem jlc {l i b r}(h:jy8 l i b=En r):ae pr (X pr) 241 [sl 2 bA l,Iv i,.fn (.func 242) [] [.aq (bA b)]]=En (sl 2 bA r,E6):=
 j8z (fun n x y M hy=>by cases hy;exact⟨_,zil M,yb⟩) h
end Go.Z
namespace Go.Z
open Go Go.Abs Go.W
def f171 (O:bD)(J:aj):Option Bool:=
 En (decide (O.k=J))
theorem Z3 (hp:qf){O J r}(h:f171 O J=En r):ai pr (X pr) 171 [aN O,.aq (.str J)] hp=En (.bool r,E6,hp):=by
 unfold f171 at h;have Q:decide (O.k=J)=r:=En.inj h;subst Q;rw[qg (show pr.br 171=En Dv from rfl) (by simp)];simp only[go_sem,seval,Dv]<;>rfl
def Qn (O:ak bD)(av:aj)(V:Int):Option (Int⊕(Int⊕Int)):=
 cond (decide (V<((O.getD []).length:Int)))
  (qa (qm (O.getD []) V) fun dj=>
  qa (f171 dj av) fun eg=>
  cond eg
   (En (.inr (.inl V)))
   (En (.inl (qd .i64 (V+1)))))
  (En (.inr (.inr V)))
def Qo (O:ak bD)(av:aj)(hp:qf)(V:Int):bn:=⟨[(0,sl 2 bA O,E6),(1,.fn (.func 171) [] [.aq (.str av)],E6),(7,Lv O,E6),(8,Iv V,E6)],hp⟩
def Qp (O:ak bD)(av:aj)(hp:qf):Int⊕Int->jb×bn
 | .inl d=>(.ret,⟨[(4,Iv d,E6)],hp⟩)| .inr d=>(.exit 0,⟨[(0,sl 2 bA O,E6),(1,.fn (.func 171) [] [.aq (.str av)],E6),(7,Lv O,E6),(8,Iv d,E6),(9,.bool E6,E6)],hp⟩)
theorem jsy (O:ak bD)(av:aj)(hp:qf)(V:Int)(r)(h:Qn O av V=En r):jy pr qY (Qo O av hp) (Qp O av hp) V r:=by
 unfold Qn at h
 repeat' first|(replace h:=qb h;obtain⟨d,g,h⟩:=h;with_reducible first|replace g:=Z3 hp g|skip)|(replace h:=qc h;rcases h with⟨g,h⟩|⟨g,h⟩)
 all_goals (cases h<;>((first|refine qu ?_|refine jz ?_);simp only[go_sem,seval,qY,Qo,jq,Qp, *]<;>rfl))
theorem jt2 (O:ak bD)(av:aj)(hp:qf){V d}(h:bq (Qn O av) V=En d):X pr (.loop qY) (Qo O av hp V)=En (Qp O av hp d):=z8 (jsy O av hp) h
def JS (O:ak bD)(av:aj):Option Int:=
 qa (bq (Qn O av) 0) fun d19=>match d19 with
  | .inl d21=>
   En d21
  | .inr d22=>
   En (-1)
theorem j8i (hp:qf){O av r}(h:JS O av=En r):ai pr (X pr) 228 [sl 2 bA O,.fn (.func 171) [] [.aq (.str av)]] hp=En (Iv r,E6,hp):=by
 unfold JS at h;rw[qg (show pr.br 228=En l0 from rfl) (by simp)]
 repeat' first|(replace h:=qb h;obtain⟨d,g,h⟩:=h;with_reducible first|(replace g:=jt2 O av hp g;rcases d with d|d<;>dsimp only[Qo,Qp,zr]at g h)|skip)|(replace h:=qc h;rcases h with⟨g,h⟩|⟨g,h⟩)
 all_goals (cases h<;>(simp only[go_sem,seval,l0, *]<;>rfl))
def Qq (O:ak bD)(av:aj)(V:Int):Option (Int⊕(Int⊕Int)):=
 cond (decide (V<((O.getD []).length:Int)))
  (qa (qm (O.getD []) V) fun dj=>
  qa (f171 dj av) fun eg=>
  cond eg
   (En (.inr (.inl V)))
   (En (.inl (qd .i64 (V+1)))))
  (En (.inr (.inr V)))
def Qr (O:ak bD)(av:aj)(V:Int):bn:=⟨[(0,sl 2 bA O,E6),(1,.fn (.func 171) [] [.aq (.str av)],E6),(7,Lv O,E6),(8,Iv V,E6)],[]⟩
def Qt (O:ak bD)(av:aj):Int⊕Int->jb×bn
 | .inl d=>(.ret,⟨[(4,Iv d,E6)],[]⟩)| .inr d=>(.exit 0,⟨[(0,sl 2 bA O,E6),(1,.fn (.func 171) [] [.aq (.str av)],E6),(7,Lv O,E6),(8,Iv d,E6),(9,.bool E6,E6)],[]⟩)
theorem jvg (O:ak bD)(av:aj)(V:Int)(r)(h:Qq O av V=En r):jy pr qY (Qr O av) (Qt O av) V r:=by
 unfold Qq at h
 repeat' first|(replace h:=qb h;obtain⟨d,g,h⟩:=h;with_reducible first|replace g:=Z3 [] g|skip)|(replace h:=qc h;rcases h with⟨g,h⟩|⟨g,h⟩)
 all_goals (cases h<;>((first|refine qu ?_|refine jz ?_);simp only[go_sem,seval,qY,Qr,jq,Qt, *]<;>rfl))
theorem jsm (O:ak bD)(av:aj){V d}(h:bq (Qq O av) V=En d):X pr (.loop qY) (Qr O av V)=En (Qt O av d):=z8 (jvg O av) h
def JP (O:ak bD)(av:aj):Option Int:=
 qa (bq (Qq O av) 0) fun d19=>match d19 with
  | .inl d21=>
   En d21
  | .inr d22=>
   En (-1)
theorem j6q {O av r}(h:JP O av=En r):ae pr (X pr) 228 [sl 2 bA O,.fn (.func 171) [] [.aq (.str av)]]=En (Iv r,E6):=by
 unfold JP at h;refine zg l0 ?_
 repeat' first|(replace h:=qb h;obtain⟨d,g,h⟩:=h;with_reducible first|(replace g:=jsm O av g;rcases d with d|d<;>dsimp only[Qr,Qt,zr]at g h)|skip)|(replace h:=qc h;rcases h with⟨g,h⟩|⟨g,h⟩)
 all_goals (cases h<;>(simp only[go_sem,seval,l0, *];exact⟨_,rfl⟩))
def JR (O:ak bD)(av:aj):Option Bool:=
 qa (JS O av) fun v1=>
 En (decide (0<=v1))
theorem j72 {O av r}(h:JR O av=En r):ae pr (X pr) 172 [sl 2 bA O,.fn (.func 171) [] [.aq (.str av)]]=En (.bool r,E6):=by
 unfold JR at h;refine zg oE ?_
 repeat' first|(replace h:=qb h;obtain⟨d,g,h⟩:=h;with_reducible first|replace g:=j8i [] g|skip)|(replace h:=qc h;rcases h with⟨g,h⟩|⟨g,h⟩)
 all_goals (cases h<;>(simp only[go_sem,seval,oE, *];exact⟨_,rfl⟩))
def f187 (O:bD)(J:ji):Option Bool:=
 En (decide (O.k=J.kind))
theorem zee (hp:qf){O J r}(h:f187 O J=En r):ai pr (X pr) 187 [aN O,.aq (aL J)] hp=En (.bool r,E6,hp):=by
 unfold f187 at h;have Q:decide (O.k=J.kind)=r:=En.inj h;subst Q;rw[qg (show pr.br 187=En Dw from rfl) (by simp)];simp only[go_sem,seval,Dw]<;>rfl
def Qu (O:ak bD)(av:ji)(V:Int):Option (Int⊕(Int⊕Int)):=
 cond (decide (V<((O.getD []).length:Int)))
  (qa (qm (O.getD []) V) fun dj=>
  qa (f187 dj av) fun eg=>
  cond eg
   (En (.inr (.inl V)))
   (En (.inl (qd .i64 (V+1)))))
  (En (.inr (.inr V)))
def Qv (O:ak bD)(av:ji)(hp:qf)(V:Int):bn:=⟨[(0,sl 2 bA O,E6),(1,.fn (.func 187) [] [.aq (aL av)],E6),(7,Lv O,E6),(8,Iv V,E6)],hp⟩
def Qw (O:ak bD)(av:ji)(hp:qf):Int⊕Int->jb×bn
 | .inl d=>(.ret,⟨[(4,Iv d,E6)],hp⟩)| .inr d=>(.exit 0,⟨[(0,sl 2 bA O,E6),(1,.fn (.func 187) [] [.aq (aL av)],E6),(7,Lv O,E6),(8,Iv d,E6),(9,.bool E6,E6)],hp⟩)
theorem jt8 (O:ak bD)(av:ji)(hp:qf)(V:Int)(r)(h:Qu O av V=En r):jy pr qY (Qv O av hp) (Qw O av hp) V r:=by
 unfold Qu at h
 repeat' first|(replace h:=qb h;obtain⟨d,g,h⟩:=h;with_reducible first|replace g:=zee hp g|skip)|(replace h:=qc h;rcases h with⟨g,h⟩|⟨g,h⟩)
 all_goals (cases h<;>((first|refine qu ?_|refine jz ?_);simp only[go_sem,seval,qY,Qv,jq,Qw, *]<;>rfl))
theorem jui (O:ak bD)(av:ji)(hp:qf){V d}(h:bq (Qu O av) V=En d):X pr (.loop qY) (Qv O av hp V)=En (Qw O av hp d):=z8 (jt8 O av hp) h
def JU (O:ak bD)(av:ji):Option Int:=
 qa (bq (Qu O av) 0) fun d19=>match d19 with
  | .inl d21=>
   En d21
  | .inr d22=>
   En (-1)
theorem j50 (hp:qf){O av r}(h:JU O av=En r):ai pr (X pr) 228 [sl 2 bA O,.fn (.func 187) [] [.aq (aL av)]] hp=En (Iv r,E6,hp):=by
 unfold JU at h;rw[qg (show pr.br 228=En l0 from rfl) (by simp)]
 repeat' first|(replace h:=qb h;obtain⟨d,g,h⟩:=h;with_reducible first|(replace g:=jui O av hp g;rcases d with d|d<;>dsimp only[Qv,Qw,zr]at g h)|skip)|(replace h:=qc h;rcases h with⟨g,h⟩|⟨g,h⟩)
 all_goals (cases h<;>(simp only[go_sem,seval,l0, *]<;>rfl))
def JT (O:ak bD)(av:ji):Option Bool:=
 qa (JU O av) fun v1=>
 En (decide (0<=v1))
theorem j8n {O av r}(h:JT O av=En r):ae pr (X pr) 172 [sl 2 bA O,.fn (.func 187) [] [.aq (aL av)]]=En (.bool r,E6):=by
 unfold JT at h;refine zg oE ?_
 repeat' first|(replace h:=qb h;obtain⟨d,g,h⟩:=h;with_reducible first|replace g:=j50 [] g|skip)|(replace h:=qc h;rcases h with⟨g,h⟩|⟨g,h⟩)
 all_goals (cases h<;>(simp only[go_sem,seval,oE, *];exact⟨_,rfl⟩))
def f176 (O:bD)(nh:aj):Option Bool:=
 qa (f171 O nh) fun v1=>
 En (!v1)
theorem zim (hp:qf){O nh r}(h:f176 O nh=En r):ai pr (X pr) 176 [aN O,.aq (.fn (.func 171) [] [.aq (.str nh)])] hp=En (.bool r,E6,hp):=by
 unfold f176 at h;obtain⟨v1,I,h⟩:=qb h;have gE:ai pr (X pr) 171 [aN O,.aq (.str nh)] hp=En (.bool v1,E6,hp):=Z3 hp I;have Q:(!v1)=r:=En.inj h;subst Q;rw[qg (show pr.br 176=En Dx from rfl) (by simp)];simp only[go_sem,seval,Dx,gE]<;>rfl
def JQ (O:ak bD)(cq:aj)(V:(ak bD)×Int×Bool):Option (((ak bD)×Int×Bool)⊕(((ak bD)×Bool×Int))):=
 cond (decide (V.2.1<((O.getD []).length:Int)))
  (qa (qm (O.getD []) V.2.1) fun v20=>
  qa (f176 v20 cq) fun v22=>
  cond v22
   (cond V.2.2
    (qa (bC V.1 [v20]) fun v26=>
    En (.inl (v26,qd .i64 (V.2.1+1),Hc)))
    (cond V.1.isNone
     (qa (bC V.1 [v20]) fun eu=>
     En (.inl (eu,qd .i64 (V.2.1+1),Hc)))
     (H3)))
   (En (.inl (V.1,qd .i64 (V.2.1+1),V.2.2))))
  (En (.inr (V.1,V.2.2,V.2.1)))
def Qx (O:ak bD)(cq:aj)(hp:qf)(V:(ak bD)×Int×Bool):bn:=⟨[(1,.fn (.func 176) [] [.aq (.fn (.func 171) [] [.aq (.str cq)])],E6),(5,sl 2 bA V.1,V.2.2),(8,sl 2 bA O,E6),(9,Lv O,E6),(10,Iv V.2.1,E6)],hp⟩
def Qy (O:ak bD)(cq:aj)(hp:qf)(d:((ak bD)×Bool×Int)):jb×bn:=(.exit 0,⟨[(1,.fn (.func 176) [] [.aq (.fn (.func 171) [] [.aq (.str cq)])],E6),(5,sl 2 bA d.1,d.2.1),(8,sl 2 bA O,E6),(9,Lv O,E6),(10,Iv d.2.2,E6),(11,.bool E6,E6)],hp⟩)
theorem jwb (O:ak bD)(cq:aj)(hp:qf)(V:(ak bD)×Int×Bool)(r)(h:JQ O cq V=En r):jy pr Qz (Qx O cq hp) (Qy O cq hp) V r:=by
 unfold JQ at h
 repeat' first|(replace h:=qb h;obtain⟨d,g,h⟩:=h;with_reducible first|replace g:=zim hp g|replace g:=BA g|skip)|(replace h:=qc h;rcases h with⟨g,h⟩|⟨g,h⟩)
 all_goals (cases h<;>((first|refine qu ?_|refine jz ?_);simp only[go_sem,seval,Qz,Qx,jq,Qy, *]<;>rfl))
theorem jwk (O:ak bD)(cq:aj)(hp:qf){V d}(h:bq (JQ O cq) V=En d):X pr (.loop Qz) (Qx O cq hp V)=En (Qy O cq hp d):=z8 (jwb O cq hp) h
def f175 (O:ak bD)(cq:aj):Option ((ak bD)×Bool):=
 qa (bq (JQ O cq) (H3,0,E6)) fun d31=>
 En (d31.1,d31.2.1)
theorem zcv (hp:qf){O cq r}(h:f175 O cq=En r):ai pr (X pr) 175 [sl 2 bA O,.fn (.func 176) [] [.aq (.fn (.func 171) [] [.aq (.str cq)])]] hp=En (sl 2 bA r.1,r.2,hp):=by
 unfold f175 at h;rw[qg (show pr.br 175=En Dy from rfl) (by simp)]
 repeat' first|(replace h:=qb h;obtain⟨d,g,h⟩:=h;with_reducible first|(replace g:=jwk O cq hp g;dsimp only[Qx,Qy,zr]at g h)|skip)|(replace h:=qc h;rcases h with⟨g,h⟩|⟨g,h⟩)
 all_goals (cases h<;>(simp only[go_sem,seval,Dy, *]<;>rfl))
def f177 (O:ak bD)(J:bD)(dO:aj):Option ((ak bD)×Bool):=
 qa (JP O dO) fun v1=>
 cond (decide (0<=v1))
  (qa (jy9 O v1 J) fun v4=>
  En (v4,E6))
  (qa (f232 O J) fun v6=>
  En (v6,Hc))
theorem zgf {O J dO r}(h:f177 O J dO=En r):ae pr (X pr) 177 [sl 2 bA O,aN J,.fn (.func 171) [] [.aq (.str dO)]]=En (sl 2 bA r.1,r.2):=by
 unfold f177 at h;refine yq Dz ?_
 repeat' first|(replace h:=qb h;obtain⟨d,g,h⟩:=h; (with_reducible first|replace g:=j6q g|replace g:=jn6 g|replace g:=zh4 g|skip);try dsimp only[zr,nD,H9,jt,jf,je,qv,bE,z6,vev,bA,jc,y6,aE,aR,aU,aL,aP,aD]at g)|(replace h:=qc h;rcases h with⟨g,h⟩|⟨g,h⟩)
 all_goals (cases h<;>(simp only[go_sem,seval,Dz, *];exact⟨_,rfl⟩))
def f178 (O:jg)(J:jg):Option Bool:=
 En (decide (O.k=J.k))
theorem zcl (hp:qf){O J r}(h:f178 O J=En r):ai pr (X pr) 178 [aT O,.aq (aT J)] hp=En (.bool r,E6,hp):=by
 unfold f178 at h;have Q:decide (O.k=J.k)=r:=En.inj h;subst Q;rw[qg (show pr.br 178=En DA from rfl) (by simp)];simp only[go_sem,seval,DA]<;>rfl
def QA (O:ak jg)(av:jg)(V:Int):Option (Int⊕(Int⊕Int)):=
 cond (decide (V<((O.getD []).length:Int)))
  (qa (qm (O.getD []) V) fun dj=>
  qa (f178 dj av) fun eg=>
  cond eg
   (En (.inr (.inl V)))
   (En (.inl (qd .i64 (V+1)))))
  (En (.inr (.inr V)))
def QB (O:ak jg)(av:jg)(V:Int):bn:=⟨[(0,sl 3 jc O,E6),(1,.fn (.func 178) [] [.aq (aT av)],E6),(7,Lv O,E6),(8,Iv V,E6)],[]⟩
def QC (O:ak jg)(av:jg):Int⊕Int->jb×bn
 | .inl d=>(.ret,⟨[(4,Iv d,E6)],[]⟩)| .inr d=>(.exit 0,⟨[(0,sl 3 jc O,E6),(1,.fn (.func 178) [] [.aq (aT av)],E6),(7,Lv O,E6),(8,Iv d,E6),(9,.bool E6,E6)],[]⟩)
theorem juw (O:ak jg)(av:jg)(V:Int)(r)(h:QA O av V=En r):jy pr DB (QB O av) (QC O av) V r:=by
 unfold QA at h
 repeat' first|(replace h:=qb h;obtain⟨d,g,h⟩:=h;with_reducible first|replace g:=zcl [] g|skip)|(replace h:=qc h;rcases h with⟨g,h⟩|⟨g,h⟩)
 all_goals (cases h<;>((first|refine qu ?_|refine jz ?_);simp only[go_sem,seval,DB,QB,jq,QC, *]<;>rfl))
theorem juo (O:ak jg)(av:jg){V d}(h:bq (QA O av) V=En d):X pr (.loop DB) (QB O av V)=En (QC O av d):=z8 (juw O av) h
def yS (O:ak jg)(av:jg):Option Int:=
 qa (bq (QA O av) 0) fun d19=>match d19 with
  | .inl d21=>
   En d21
  | .inr d22=>
   En (-1)
theorem jrj {O av r}(h:yS O av=En r):ae pr (X pr) 233 [sl 3 jc O,.fn (.func 178) [] [.aq (aT av)]]=En (Iv r,E6):=by
 unfold yS at h;refine zg tW ?_
 repeat' first|(replace h:=qb h;obtain⟨d,g,h⟩:=h;with_reducible first|(replace g:=juo O av g;rcases d with d|d<;>dsimp only[QB,QC,zr]at g h)|skip)|(replace h:=qc h;rcases h with⟨g,h⟩|⟨g,h⟩)
 all_goals (cases h<;>(simp only[go_sem,seval,tW, *];exact⟨_,rfl⟩))
def JV (O:ak jg)(av:jg):Option Bool:=
 qa (yS O av) fun v1=>
 En (decide (0<=v1))
theorem j58 {O av r}(h:JV O av=En r):ae pr (X pr) 179 [sl 3 jc O,.fn (.func 178) [] [.aq (aT av)]]=En (.bool r,E6):=by
 unfold JV at h;refine zg tX ?_
 repeat' first|(replace h:=qb h;obtain⟨d,g,h⟩:=h;with_reducible first|replace g:=jrj g|skip)|(replace h:=qc h;rcases h with⟨g,h⟩|⟨g,h⟩)
 all_goals (cases h<;>(simp only[go_sem,seval,tX, *];exact⟨_,rfl⟩))
def f181 (O:ak jg)(J:jg)(dO:jg):Option ((ak jg)×Bool):=
 qa (yS O dO) fun v1=>
 cond (decide (0<=v1))
  (qa (jwf O v1 J) fun v4=>
  En (v4,E6))
  (qa (f236 O J) fun v6=>
  En (v6,Hc))
theorem zfk {O J dO r}(h:f181 O J dO=En r):ae pr (X pr) 181 [sl 3 jc O,aT J,.fn (.func 178) [] [.aq (aT dO)]]=En (sl 3 jc r.1,r.2):=by
 unfold f181 at h;refine yq DC ?_
 repeat' first|(replace h:=qb h;obtain⟨d,g,h⟩:=h; (with_reducible first|replace g:=jrj g|replace g:=jqi g|replace g:=zd9 g|skip);try dsimp only[zr,nD,H9,jt,jf,je,qv,bE,z6,vev,bA,jc,y6,aE,aR,aU,aL,aP,aD]at g)|(replace h:=qc h;rcases h with⟨g,h⟩|⟨g,h⟩)
 all_goals (cases h<;>(simp only[go_sem,seval,DC, *];exact⟨_,rfl⟩))
def f195 (O:jg)(J:GEv):Option Bool:=
 qa (qm (J.names.getD []) 1) fun v1=>
 En (decide (O.k=v1))
theorem zch (hp:qf){O J r}(h:f195 O J=En r):ai pr (X pr) 195 [aT O,.aq (aE J)] hp=En (.bool r,E6,hp):=by
 unfold f195 at h;obtain⟨v1,I,h⟩:=qb h;have Q:decide (O.k=v1)=r:=En.inj h;subst Q;rw[qg (show pr.br 195=En DE from rfl) (by simp)];simp only[go_sem,seval,DE,jm I]<;>rfl
def JY (O:ak jg)(av:GEv)(V:Int):Option (Int⊕(Int⊕Int)):=
 cond (decide (V<((O.getD []).length:Int)))
  (qa (qm (O.getD []) V) fun dj=>
  qa (f195 dj av) fun eg=>
  cond eg
   (En (.inr (.inl V)))
   (En (.inl (qd .i64 (V+1)))))
  (En (.inr (.inr V)))
def QD (O:ak jg)(av:GEv)(V:Int):bn:=⟨[(0,sl 3 jc O,E6),(1,.fn (.func 195) [] [.aq (aE av)],E6),(7,Lv O,E6),(8,Iv V,E6)],[]⟩
def QE (O:ak jg)(av:GEv):Int⊕Int->jb×bn
 | .inl d=>(.ret,⟨[(4,Iv d,E6)],[]⟩)| .inr d=>(.exit 0,⟨[(0,sl 3 jc O,E6),(1,.fn (.func 195) [] [.aq (aE av)],E6),(7,Lv O,E6),(8,Iv d,E6),(9,.bool E6,E6)],[]⟩)
theorem jst (O:ak jg)(av:GEv)(V:Int)(r)(h:JY O av V=En r):jy pr DB (QD O av) (QE O av) V r:=by
 unfold JY at h
 repeat' first|(replace h:=qb h;obtain⟨d,g,h⟩:=h;with_reducible first|replace g:=zch [] g|skip)|(replace h:=qc h;rcases h with⟨g,h⟩|⟨g,h⟩)
 all_goals (cases h<;>((first|refine qu ?_|refine jz ?_);simp only[go_sem,seval,DB,QD,jq,QE, *]<;>rfl))
theorem jrq (O:ak jg)(av:GEv){V d}(h:bq (JY O av) V=En d):X pr (.loop DB) (QD O av V)=En (QE O av d):=z8 (jst O av) h
def JX (O:ak jg)(av:GEv):Option Int:=
 qa (bq (JY O av) 0) fun d19=>match d19 with
  | .inl d21=>
   En d21
  | .inr d22=>
   En (-1)
theorem j5e {O av r}(h:JX O av=En r):ae pr (X pr) 233 [sl 3 jc O,.fn (.func 195) [] [.aq (aE av)]]=En (Iv r,E6):=by
 unfold JX at h;refine zg tW ?_
 repeat' first|(replace h:=qb h;obtain⟨d,g,h⟩:=h;with_reducible first|(replace g:=jrq O av g;rcases d with d|d<;>dsimp only[QD,QE,zr]at g h)|skip)|(replace h:=qc h;rcases h with⟨g,h⟩|⟨g,h⟩)
 all_goals (cases h<;>(simp only[go_sem,seval,tW, *];exact⟨_,rfl⟩))
def JW (O:ak jg)(av:GEv):Option Bool:=
 qa (JX O av) fun v1=>
 En (decide (0<=v1))
theorem j7t {O av r}(h:JW O av=En r):ae pr (X pr) 179 [sl 3 jc O,.fn (.func 195) [] [.aq (aE av)]]=En (.bool r,E6):=by
 unfold JW at h;refine zg tX ?_
 repeat' first|(replace h:=qb h;obtain⟨d,g,h⟩:=h;with_reducible first|replace g:=j5e g|skip)|(replace h:=qc h;rcases h with⟨g,h⟩|⟨g,h⟩)
 all_goals (cases h<;>(simp only[go_sem,seval,tX, *];exact⟨_,rfl⟩))
def f190 (O:bD)(J:ji):Option Bool:=
 En (decide (O.k=J.name))
theorem zda (hp:qf){O J r}(h:f190 O J=En r):ai pr (X pr) 190 [aN O,.aq (aL J)] hp=En (.bool r,E6,hp):=by
 unfold f190 at h;have Q:decide (O.k=J.name)=r:=En.inj h;subst Q;rw[qg (show pr.br 190=En DF from rfl) (by simp)];simp only[go_sem,seval,DF]<;>rfl
def QF (O:ak bD)(av:ji)(V:Int):Option (Int⊕(Int⊕Int)):=
 cond (decide (V<((O.getD []).length:Int)))
  (qa (qm (O.getD []) V) fun dj=>
  qa (f190 dj av) fun eg=>
  cond eg
   (En (.inr (.inl V)))
   (En (.inl (qd .i64 (V+1)))))
  (En (.inr (.inr V)))
def QG (O:ak bD)(av:ji)(V:Int):bn:=⟨[(0,sl 2 bA O,E6),(1,.fn (.func 190) [] [.aq (aL av)],E6),(7,Lv O,E6),(8,Iv V,E6)],[]⟩
def QH (O:ak bD)(av:ji):Int⊕Int->jb×bn
 | .inl d=>(.ret,⟨[(4,Iv d,E6)],[]⟩)| .inr d=>(.exit 0,⟨[(0,sl 2 bA O,E6),(1,.fn (.func 190) [] [.aq (aL av)],E6),(7,Lv O,E6),(8,Iv d,E6),(9,.bool E6,E6)],[]⟩)
theorem jze (O:ak bD)(av:ji)(V:Int)(r)(h:QF O av V=En r):jy pr QI (QG O av) (QH O av) V r:=by
 unfold QF at h
 repeat' first|(replace h:=qb h;obtain⟨d,g,h⟩:=h;with_reducible first|replace g:=zda [] g|skip)|(replace h:=qc h;rcases h with⟨g,h⟩|⟨g,h⟩)
 all_goals (cases h<;>((first|refine qu ?_|refine jz ?_);simp only[go_sem,seval,QI,QG,jq,QH, *]<;>rfl))
theorem jz5 (O:ak bD)(av:ji){V d}(h:bq (QF O av) V=En d):X pr (.loop QI) (QG O av V)=En (QH O av d):=z8 (jze O av) h
def f191 (O:ak bD)(av:ji):Option Int:=
 qa (bq (QF O av) 0) fun d19=>match d19 with
  | .inl d21=>
   En d21
  | .inr d22=>
   En (-1)
theorem jyb {O av r}(h:f191 O av=En r):ae pr (X pr) 191 [sl 2 bA O,.fn (.func 190) [] [.aq (aL av)]]=En (Iv r,E6):=by
 unfold f191 at h;refine zg DG ?_
 repeat' first|(replace h:=qb h;obtain⟨d,g,h⟩:=h;with_reducible first|(replace g:=jz5 O av g;rcases d with d|d<;>dsimp only[QG,QH,zr]at g h)|skip)|(replace h:=qc h;rcases h with⟨g,h⟩|⟨g,h⟩)
 all_goals (cases h<;>(simp only[go_sem,seval,DG, *];exact⟨_,rfl⟩))
def f194 (O:ak bD)(J:bD)(dO:ji):Option ((ak bD)×Bool):=
 qa (f191 O dO) fun v1=>
 cond (decide (0<=v1))
  (qa (jy8 O v1 J) fun v4=>
  En (v4,E6))
  (qa (f243 O J) fun v6=>
  En (v6,Hc))
theorem zeu {O J dO r}(h:f194 O J dO=En r):ae pr (X pr) 194 [sl 2 bA O,aN J,.fn (.func 190) [] [.aq (aL dO)]]=En (sl 2 bA r.1,r.2):=by
 unfold f194 at h;refine yq DH ?_
 repeat' first|(replace h:=qb h;obtain⟨d,g,h⟩:=h; (with_reducible first|replace g:=jyb g|replace g:=jlc g|replace g:=zha g|skip);try dsimp only[zr,nD,H9,jt,jf,je,qv,bE,z6,vev,bA,jc,y6,aE,aR,aU,aL,aP,aD]at g)|(replace h:=qc h;rcases h with⟨g,h⟩|⟨g,h⟩)
 all_goals (cases h<;>(simp only[go_sem,seval,DH, *];exact⟨_,rfl⟩))
end Go.Z
namespace Go.Z
open Go Go.Abs Go.W
theorem Hs {α:Type}{f:α->AVal}{sz}(E:qU f sz){l i o x y u}(M:l[i]?=En x)(ho:o<sz)(hy:(f y).flat=(f x).flat.set o u)(w:Bool):((bQ f l).set (i*sz+o) (u,w)).map (·.1)=zk f (l.set i y):=by
 have h:=congrArg (H9 (·.1)) (jba E.len M ho hy);rw[List.map_set]at h ⊢;rw[show(bQ f (l.set i y)).map (·.1)=zk f (l.set i y)from yb]at h;exact h
theorem Lh {α:Type}{f:α->AVal}{sz}(E:qU f sz){l i o x}(M:l[i]?=En x)(ho:o<sz):i*sz+o<(bQ f l).length:=by
 have h:=(F3 (n:=1) (o:=o) E.len M (by omega)).2;simp only[bQ,cellsOf,Ic];omega
def J0 (c:Int)(nm k:aj)(x:bp):Option bp:=cond (decide (c=0))
 (qa (f175 x.dn nm) fun v=>En { x with dn:=v.1 })
 (qa (f177 x.dn ⟨k,c⟩ nm) fun v=>En { x with dn:=v.1 })
theorem zde {l:List bp}{i:Nat}{x y c nm k}(M:l[i]?=En x)(h:J0 c nm k x=En y):
  ∃cs,ai pr (X pr) 174 [.ptr 0 (i*4+1),.aq (Iv c),.aq (.fn (.func 171) [] [.aq (.str nm)]),.aq (.str k)] [.cells (bQ qv l)]=En (.aJ [],E6,[.cells cs])/\cs.map (·.1)=zk qv (l.set i y):=by
 unfold J0 at h;have ld:zt (bQ qv l) (i*4+1) 1=En [sl 2 bA x.dn]:=wO (o:=1) cK.len M (by decide);have hb:=Lh cK (o:=1) M (by decide);rcases qc h with⟨Y,h⟩|⟨Y,h⟩
 .obtain⟨v,hv,h⟩:=qb h;cases h;have w:=zcv [.cells (bQ qv l)] hv;rcases v with⟨v,o⟩;have hy:(qv { x with dn:=v }).flat=(qv x).flat.set 1 (sl 2 bA v):=rfl;have st:jw (bQ qv l) (i*4+1) [sl 2 bA v]=En (bQ qv (l.set i { x with dn:=v })):=nC (o:=1) cK.len M (Ha rfl) (by simp only[Il,go_sem,Ia]) rfl
  cases o with
  |true=>exact⟨_,by rw[qg (show pr.br 174=En l4 from rfl) (by simp)];simp only[go_sem,seval,l4,Y,ld,w,hb]<;>rfl,Hs cK M (by decide) hy Hc⟩|false=>exact⟨_,by rw[qg (show pr.br 174=En l4 from rfl) (by simp)];simp only[go_sem,seval,l4,Y,ld,w,st]<;>rfl,yb⟩
 .obtain⟨v,hv,h⟩:=qb h;cases h;have w:ae pr (X pr) 177 [sl 2 bA x.dn,.agg [.str k,Iv c],.fn (.func 171) [] [.aq (.str nm)]]=En (sl 2 bA v.1,v.2):=zgf hv;rcases v with⟨v,o⟩;have hy:(qv { x with dn:=v }).flat=(qv x).flat.set 1 (sl 2 bA v):=rfl;have st:jw (bQ qv l) (i*4+1) [sl 2 bA v]=En (bQ qv (l.set i { x with dn:=v })):=nC (o:=1) cK.len M (Ha rfl) (by simp only[Il,go_sem,Ia]) rfl
  cases o with
  |true=>exact⟨_,by rw[qg (show pr.br 174=En l4 from rfl) (by simp)];simp only[go_sem,seval,l4,Y,ld,w,hb]<;>rfl,Hs cK M (by decide) hy Hc⟩|false=>exact⟨_,by rw[qg (show pr.br 174=En l4 from rfl) (by simp)];simp only[go_sem,seval,l4,Y,ld,w,st]<;>rfl,yb⟩
def V5 (l:ak bp)(i:Int)(c:Int)(nm k:aj):Option (ak bp):=gu l i (J0 c nm k)
theorem jn5 {l i c nm k r}(h:V5 l i c nm k=En r):ae pr (X pr) 182 [sl 4 qv l,Iv i,.fn (.func 229) [] [.aq (.fn (.func 174) [] [.aq (Iv c),.aq (.fn (.func 171) [] [.aq (.str nm)]),.aq (.str k)])]]=En (sl 4 qv r,E6):=by
 refine ZZ (fun n x y M hy=>?_) h;obtain⟨cs,Y,I⟩:=zde M hy;exact⟨cs,by rw[qg (show pr.br 229=En tY from rfl) (by simp)];simp only[go_sem,seval,tY,Y]<;>rfl,I⟩
def J1 (t s:jg)(x:bp):Option bp:=qa (f181 x.dt t s) fun v=>En { x with dt:=v.1 }
theorem zdk {l:List bp}{i:Nat}{x y t s}(M:l[i]?=En x)(h:J1 t s x=En y):
  ∃cs,ai pr (X pr) 180 [.ptr 0 (i*4+1),.aq (jc t),.aq (.fn (.func 178) [] [.aq (jc s)])] [.cells (bQ qv l)]=En (.aJ [],E6,[.cells cs])/\cs.map (·.1)=zk qv (l.set i y):=by
 unfold J1 at h;have ld:zt (bQ qv l) (i*4+1+1) 1=En [sl 3 jc x.dt]:=wO (o:=2) cK.len M (by decide);have hb:i*4+1+1<(bQ qv l).length:=Lh cK (o:=2) M (by decide);obtain⟨v,hv,h⟩:=qb h;cases h;have w:ae pr (X pr) 181 [sl 3 jc x.dt,aT t,.fn (.func 178) [] [.aq (aT s)]]=En (sl 3 jc v.1,v.2):=zfk hv;rcases v with⟨v,o⟩;have hy:(qv { x with dt:=v }).flat=(qv x).flat.set 2 (sl 3 jc v):=rfl;have st:jw (bQ qv l) (i*4+1+1) [sl 3 jc v]=En (bQ qv (l.set i { x with dt:=v })):=nC (o:=2) cK.len M (Ha rfl) (by simp only[Il,go_sem,Ia]) rfl
 cases o with
 |true=>exact⟨_,by rw[qg (show pr.br 180=En tZ from rfl) (by simp)];simp only[go_sem,seval,tZ,jc,ld,w,hb]<;>rfl,Hs cK (o:=2) M (by decide) hy Hc⟩|false=>exact⟨_,by rw[qg (show pr.br 180=En tZ from rfl) (by simp)];simp only[go_sem,seval,tZ,jc,ld,w,st]<;>rfl,yb⟩
def V6 (l:ak bp)(i:Int)(t s:jg):Option (ak bp):=gu l i (J1 t s)
theorem jmx {l i t s r}(h:V6 l i t s=En r):ae pr (X pr) 182 [sl 4 qv l,Iv i,.fn (.func 229) [] [.aq (.fn (.func 180) [] [.aq (jc t),.aq (.fn (.func 178) [] [.aq (jc s)])])]]=En (sl 4 qv r,E6):=by
 refine ZZ (fun n x y M hy=>?_) h;obtain⟨cs,Y,I⟩:=zdk M hy;simp only[jij]at Y;exact⟨cs,by rw[qg (show pr.br 229=En tY from rfl) (by simp)];simp only[go_sem,seval,tY,Y]<;>rfl,I⟩
def OH (x:bp):Option bp:=qa (f185 ⟨x.dn,x.dt⟩) fun d=>qa (f184 x.bm d) fun v=>En { x with bm:=v }
theorem zj3 {l:List bp}{i:Nat}{x y}(M:l[i]?=En x)(h:OH x=En y):
  ∃cs,ai pr (X pr) 183 [.ptr 0 (i*4)] [.cells (bQ qv l)]=En (.aJ [],E6,[.cells cs])/\cs.map (·.1)=zk qv (l.set i y):=by
 unfold OH at h;have ld:zt (bQ qv l) (i*4+3) 1=En [sl 2 y6 x.bm]:=wO (o:=3) cK.len M (by decide);have Z4:zt (bQ qv l) (i*4+1) 2=En [sl 2 bA x.dn,sl 3 jc x.dt]:=wO (o:=1) cK.len M (by decide);have hb:i*4+3<(bQ qv l).length:=Lh cK (o:=3) M (by decide);obtain⟨d,hd,h⟩:=qb h;obtain⟨v,hv,h⟩:=qb h;cases h;have w:ae pr (X pr) 185 [.agg [sl 2 bA x.dn,sl 3 jc x.dt]]=En (aD d,E6):=zih hd;have w2:ae pr (X pr) 184 [sl 2 y6 x.bm,aD d]=En (sl 2 y6 v,Hc):=zcp hv;have hy:(qv { x with bm:=v }).flat=(qv x).flat.set 3 (sl 2 y6 v):=rfl;exact⟨_,by rw[qg (show pr.br 183=En DI from rfl) (by simp)];simp only[go_sem,seval,DI,ld,Z4,w,w2,hb]<;>rfl,Hs cK (o:=3) M (by decide) hy Hc⟩
def OG (l:ak bp)(i:Int):Option (ak bp):=gu l i OH
theorem jpr {l i r}(h:OG l i=En r):ae pr (X pr) 182 [sl 4 qv l,Iv i,.fn (.func 183) [] []]=En (sl 4 qv r,E6):=
 ZZ (fun n x y M hy=>zj3 M hy) h
def OI (e:GEv)(x:bw):Option bw:=qa (qm (e.names.getD []) 1) fun n=>qa (qm (e.values.getD []) 1) fun b=>qa (f197 x.results ⟨n,x.version,b⟩) fun v=>En { x with results:=v }
theorem zgw {l:List bw}{i:Nat}{x y e}(M:l[i]?=En x)(h:OI e x=En y):
  ∃cs,ai pr (X pr) 196 [.ptr 0 (i*8),.aq (vev e)] [.cells (bQ bE l)]=En (.aJ [],E6,[.cells cs])/\cs.map (·.1)=zk bE (l.set i y):=by
 unfold OI at h;have ld:zt (bQ bE l) (i*8+4) 1=En [sl 3 jc x.results]:=wO (o:=4) eo.len M (by decide);have Z4:zt (bQ bE l) (i*8+2) 1=En [Iv x.version]:=wO (o:=2) eo.len M (by decide);have hb:i*8+4<(bQ bE l).length:=Lh eo (o:=4) M (by decide);obtain⟨n,hn,h⟩:=qb h;obtain⟨b,Bk,h⟩:=qb h;obtain⟨v,hv,h⟩:=qb h;cases h;have w:ae pr (X pr) 197 [sl 3 jc x.results,.agg [.str n,Iv x.version,Iv b]]=En (sl 3 jc v,Hc):=zeo hv;have hy:(bE { x with results:=v }).flat=(bE x).flat.set 4 (sl 3 jc v):=rfl;exact⟨_,by rw[qg (show pr.br 196=En DJ from rfl) (by simp)];simp only[go_sem,seval,DJ,vev,jm hn,jm Bk,ld,Z4,w,hb]<;>rfl,Hs eo (o:=4) M (by decide) hy Hc⟩
def Wd (l:ak bw)(i:Int)(e:GEv):Option (ak bw):=gu l i (OI e)
theorem jpp {l i e r}(h:Wd l i e=En r):ae pr (X pr) 192 [sl 8 bE l,Iv i,.fn (.func 196) [] [.aq (vev e)]]=En (sl 8 bE r,E6):=
 Hr (fun n x y M hy=>zgw M hy) h
def Gi (s:bD)(t:ji)(x:bw):Option bw:=qa (f194 x.uses s t) fun v=>En { x with uses:=v.1 }
theorem jxv {b0 b1 b2 b3:aK}{l:List bw}{i x y s t}(M:l[i]?=En x)(h:Gi s t x=En y):
  ∃cs,ai pr (X pr) 193 [.ptr 5 (i*8),.ptr 4 0,.aq (.fn (.func 190) [] [.aq (je t)])] [b0,b1,b2,b3,.cells [(.str s.k,E6),(Iv s.n,E6)],.cells (bQ bE l)]=En (.aJ [],E6,[b0,b1,b2,b3,.cells [(.str s.k,E6),(Iv s.n,E6)],.cells cs])/\cs.map (·.1)=zk bE (l.set i y):=by
 unfold Gi at h;have ld:zt (bQ bE l) (i*8+3) 1=En [sl 2 bA x.uses]:=wO (o:=3) eo.len M (by decide);have hb:i*8+3<(bQ bE l).length:=Lh eo (o:=3) M (by decide);obtain⟨v,hv,h⟩:=qb h;cases h;have w:ae pr (X pr) 194 [sl 2 bA x.uses,aN s,.fn (.func 190) [] [.aq (aL t)]]=En (sl 2 bA v.1,v.2):=zeu hv;rcases v with⟨v,o⟩;have hy:(bE { x with uses:=v }).flat=(bE x).flat.set 3 (sl 2 bA v):=rfl;have st:jw (bQ bE l) (i*8+3) [sl 2 bA v]=En (bQ bE (l.set i { x with uses:=v })):=nC (o:=3) eo.len M (Ha rfl) (by simp only[Il,go_sem,Ia]) rfl
 cases o with
 |true=>exact⟨_,by rw[qg (show pr.br 193=En ua from rfl) (by simp)];simp only[go_sem,seval,ua,je,ld,w,hb]<;>rfl,Hs eo (o:=3) M (by decide) hy Hc⟩|false=>exact⟨_,by rw[qg (show pr.br 193=En ua from rfl) (by simp)];simp only[go_sem,seval,ua,je,ld,w,st]<;>rfl,yb⟩
end Go.Z
namespace Go.Z
open Go Go.Abs Go.W
def BM {α:Type}(l:Option (List α))(i:Int)(x:α):Option (Option (List α)):=
 if(l.getD []).length<=1073741824/\0<=i/\i<(l.getD []).length then En (En ((l.getD []).set i.toNat x))else H3
theorem Z5 {α:Type}{l:Option (List α)}{i x r}(h:BM l i x=En r):∃(n:Nat),i=(n:Int)/\(l.getD []).length<=1073741824/\n<(l.getD []).length/\r=En ((l.getD []).set n x):=by
 unfold BM at h;split at h
 .rename_i hc;cases h;exact⟨i.toNat,(Int.toNat_of_nonneg hc.2.1).symm,hc.1,by omega,rfl⟩
 .cases h
section
variable {α:Type}{f:α->AVal}{sz:Nat}{h:qf}
theorem jgl {l}:cellsOf ((l.map f).flatMap AVal.flat)=bQ f l:=rfl
theorem Z6 (E:qU f sz){n0 r b t l}(hl:(l.getD []).length<=1073741824)(hb:b<=4096){h'}(hh:aO n0 h r (.cells (bQ f (l.getD [])))=En h'):B8 n0 r sz b h (En t) (En (.list E6 sz [])) (En (sl sz f l))=En ⟨.ms (n0+r) 0 (l.getD []).length,E6,En t,h'⟩:=by
 have G:yg sz (sl sz f l)=En ((l.getD []).map f):=Vq
 have Y:0<sz:=by have:=E.big;omega
 simp only[B8];rw[G];simp only[Option.isSome_some,Ib,Ia,cond_true,Ic,H8 hl,H8 hb,Io.mpr Y,jgl,hh]
theorem Z7 (E:qU f sz){l i y}(hi:i<l.length):jw (bQ f l) (i*sz) (f y).flat=En (bQ f (l.set i y)):=by
 have M:l[i]?=En l[i]:=List.getElem?_eq_getElem hi;have hl:=E.len l[i];have hly:=E.len y;have:=nC (o:=0) (us:=(f y).flat) (y:=y) E.len M (by omega) (E.sc y) (by rw[Iq,Ik,If (by omega),Ip]);rw[Nat.add_zero]at this;exact this
end
def f220 (O:aw)(J:Int)(x:ji):Option aw:=qa (BM O.az J x) fun v=>En { O with az:=v }
theorem jwt {O:aw}{J:Int}{x r}(h:f220 O J x=En r):ae pr (X pr) 220 [aR O,Iv J,aL x]=En (aR r,E6):=by
 obtain⟨v,hv,h⟩:=qb h;cases h;obtain⟨n,rfl,hl,hi,rfl⟩:=Z5 hv
 have ap:B8 2 0 5 56 [kR O.day O.az O.ah O.units,kZ,.hole] (En 7) (En (.list E6 5 [])) (En (sl 5 je O.az))=En ⟨.ms 2 0 (O.az.getD []).length,E6,En 7,[kR O.day O.az O.ah O.units,kZ,.cells (bQ je (O.az.getD []))]⟩:=by apply Z6 gA<;>first|exact hl|rfl|decide
 have st:jw (bQ je (O.az.getD [])) (n*5) [.str x.name,.str x.kind,Iv x.count,Iv x.left,.bool x.held]=En (bQ je ((O.az.getD []).set n x)):=Z7 (y:=x) gA hi
 have this:ai pr (X pr) 220 [aR O,Iv (n:Int),aL x] []=En (.agg [Iv O.day,.ms 2 0 (O.az.getD []).length,sl 4 qv O.ah,sl 8 bE O.units],E6,[.cells [(Iv O.day,E6),(.ms 2 0 (O.az.getD []).length,E6),(sl 4 qv O.ah,E6),(sl 8 bE O.units,E6)],.cells [(Iv O.day,E6),(.ms 2 0 (O.az.getD []).length,E6),(sl 4 qv O.ah,E6),(sl 8 bE O.units,E6)],.cells (bQ je ((O.az.getD []).set n x))]):=by
  rw[qg (show pr.br 220=En DK from rfl) (by simp)];simp only[go_sem,seval,DK,ap,vR hi,st]<;>rfl
 have fz:jL [.cells [(Iv O.day,E6),(.ms 2 0 (O.az.getD []).length,E6),(sl 4 qv O.ah,E6),(sl 8 bE O.units,E6)],.cells [(Iv O.day,E6),(.ms 2 0 (O.az.getD []).length,E6),(sl 4 qv O.ah,E6),(sl 8 bE O.units,E6)],.cells (bQ je ((O.az.getD []).set n x))] (.ms 2 0 (O.az.getD []).length)=En (sl 5 je (En ((O.az.getD []).set n x))):=by
  have:=vQ gA (l:=(O.az.getD []).set n x) (by rw[H4];omega) (cs:=bQ je ((O.az.getD []).set n x)) yb;rw[H4]at this;exact this
 refine jr rfl this (v':=.agg [Iv O.day,sl 5 je (En ((O.az.getD []).set n x)),sl 4 qv O.ah,sl 8 bE O.units]) ?_ (by first|rfl|simp only[go_sem,seval]);rw[Vx];simp only[go_sem,seval,fz]<;>rfl
def f219 (O:aw)(J:Int)(x:bp):Option aw:=qa (BM O.ah J x) fun v=>En { O with ah:=v }
theorem zg1 {O:aw}{J:Int}{x r}(h:f219 O J x=En r):ae pr (X pr) 219 [aR O,Iv J,aP x]=En (aR r,E6):=by
 obtain⟨v,hv,h⟩:=qb h;cases h;obtain⟨n,rfl,hl,hi,rfl⟩:=Z5 hv
 have ap:B8 2 0 4 88 [kR O.day O.az O.ah O.units,kZ,.hole] (En 7) (En (.list E6 4 [])) (En (sl 4 qv O.ah))=En ⟨.ms 2 0 (O.ah.getD []).length,E6,En 7,[kR O.day O.az O.ah O.units,kZ,.cells (bQ qv (O.ah.getD []))]⟩:=by apply Z6 cK<;>first|exact hl|rfl|decide
 have st:jw (bQ qv (O.ah.getD [])) (n*4) [.str x.name,sl 2 bA x.dn,sl 3 jc x.dt,sl 2 y6 x.bm]=En (bQ qv ((O.ah.getD []).set n x)):=Z7 (y:=x) cK hi
 have this:ai pr (X pr) 219 [aR O,Iv (n:Int),aP x] []=En (.agg [Iv O.day,sl 5 je O.az,.ms 2 0 (O.ah.getD []).length,sl 8 bE O.units],E6,[.cells [(Iv O.day,E6),(sl 5 je O.az,E6),(.ms 2 0 (O.ah.getD []).length,E6),(sl 8 bE O.units,E6)],.cells [(Iv O.day,E6),(sl 5 je O.az,E6),(.ms 2 0 (O.ah.getD []).length,E6),(sl 8 bE O.units,E6)],.cells (bQ qv ((O.ah.getD []).set n x))]):=by
  rw[qg (show pr.br 219=En DL from rfl) (by simp)];simp only[go_sem,seval,DL,ap,vR hi,st]<;>rfl
 have fz:jL [.cells [(Iv O.day,E6),(sl 5 je O.az,E6),(.ms 2 0 (O.ah.getD []).length,E6),(sl 8 bE O.units,E6)],.cells [(Iv O.day,E6),(sl 5 je O.az,E6),(.ms 2 0 (O.ah.getD []).length,E6),(sl 8 bE O.units,E6)],.cells (bQ qv ((O.ah.getD []).set n x))] (.ms 2 0 (O.ah.getD []).length)=En (sl 4 qv (En ((O.ah.getD []).set n x))):=by
  have:=vQ cK (l:=(O.ah.getD []).set n x) (by rw[H4];omega) (cs:=bQ qv ((O.ah.getD []).set n x)) yb;rw[H4]at this;exact this
 refine jr rfl this (v':=.agg [Iv O.day,sl 5 je O.az,sl 4 qv (En ((O.ah.getD []).set n x)),sl 8 bE O.units]) ?_ (by first|rfl|simp only[go_sem,seval]);rw[Vx];simp only[go_sem,seval,fz]<;>rfl
def f225 (O:aw)(J:Int)(x:bw):Option aw:=qa (BM O.units J x) fun v=>En { O with units:=v }
theorem Z8 {O:aw}{J:Int}{x r}(h:f225 O J x=En r):ae pr (X pr) 225 [aR O,Iv J,aU x]=En (aR r,E6):=by
 obtain⟨v,hv,h⟩:=qb h;cases h;obtain⟨n,rfl,hl,hi,rfl⟩:=Z5 hv
 have ap:B8 2 0 8 120 [kR O.day O.az O.ah O.units,kZ,.hole] (En 7) (En (.list E6 8 [])) (En (sl 8 bE O.units))=En ⟨.ms 2 0 (O.units.getD []).length,E6,En 7,[kR O.day O.az O.ah O.units,kZ,.cells (bQ bE (O.units.getD []))]⟩:=by apply Z6 eo<;>first|exact hl|rfl|decide
 have st:jw (bQ bE (O.units.getD [])) (n*8) [.str x.name,.str x.product,Iv x.version,sl 2 bA x.uses,sl 3 jc x.results,.str x.partner,.bool x.ax,Iv x.au]=En (bQ bE ((O.units.getD []).set n x)):=Z7 (y:=x) eo hi
 have this:ai pr (X pr) 225 [aR O,Iv (n:Int),aU x] []=En (.agg [Iv O.day,sl 5 je O.az,sl 4 qv O.ah,.ms 2 0 (O.units.getD []).length],E6,[.cells [(Iv O.day,E6),(sl 5 je O.az,E6),(sl 4 qv O.ah,E6),(.ms 2 0 (O.units.getD []).length,E6)],.cells [(Iv O.day,E6),(sl 5 je O.az,E6),(sl 4 qv O.ah,E6),(.ms 2 0 (O.units.getD []).length,E6)],.cells (bQ bE ((O.units.getD []).set n x))]):=by
  rw[qg (show pr.br 225=En DM from rfl) (by simp)];simp only[go_sem,seval,DM,ap,vR hi,st]<;>rfl
 have fz:jL [.cells [(Iv O.day,E6),(sl 5 je O.az,E6),(sl 4 qv O.ah,E6),(.ms 2 0 (O.units.getD []).length,E6)],.cells [(Iv O.day,E6),(sl 5 je O.az,E6),(sl 4 qv O.ah,E6),(.ms 2 0 (O.units.getD []).length,E6)],.cells (bQ bE ((O.units.getD []).set n x))] (.ms 2 0 (O.units.getD []).length)=En (sl 8 bE (En ((O.units.getD []).set n x))):=by
  have:=vQ eo (l:=(O.units.getD []).set n x) (by rw[H4];omega) (cs:=bQ bE ((O.units.getD []).set n x)) yb;rw[H4]at this;exact this
 refine jr rfl this (v':=.agg [Iv O.day,sl 5 je O.az,sl 4 qv O.ah,sl 8 bE (En ((O.units.getD []).set n x))]) ?_ (by first|rfl|simp only[go_sem,seval]);rw[Vx];simp only[go_sem,seval,fz]<;>rfl
end Go.Z
namespace Go.Z
open Go Go.Abs Go.W
def BN (O:ak bD)(J:bD)(V:(ak bD)×Bool×Int×Bool):Option (((ak bD)×Bool×Int×Bool)⊕(((ak bD)×Bool×Bool×Int))):=
 cond (decide (V.2.2.1<((O.getD []).length:Int)))
  (qa (qm (O.getD []) V.2.2.1) fun v24=>
  cond (decide (v24.k=J.k))
   (cond (decide (0<J.n))
    (cond V.2.2.2
     (qa (bC V.1 [J]) fun eu=>
     En (.inl (eu,Hc,qd .i64 (V.2.2.1+1),Hc)))
     (cond V.1.isNone
      (qa (bC V.1 [J]) fun ig=>
      En (.inl (ig,Hc,qd .i64 (V.2.2.1+1),Hc)))
      (H3)))
    (En (.inl (V.1,Hc,qd .i64 (V.2.2.1+1),V.2.2.2))))
   (cond V.2.2.2
    (qa (bC V.1 [v24]) fun ou=>
    En (.inl (ou,V.2.1,qd .i64 (V.2.2.1+1),Hc)))
    (cond V.1.isNone
     (qa (bC V.1 [v24]) fun tQ=>
     En (.inl (tQ,V.2.1,qd .i64 (V.2.2.1+1),Hc)))
     (H3))))
  (En (.inr (V.1,V.2.2.2,V.2.1,V.2.2.1)))
def QJ (O:ak bD)(J:bD)(V:(ak bD)×Bool×Int×Bool):bn:=⟨[(0,sl 2 bA O,E6),(3,.aq (aN J),E6),(5,sl 2 bA V.1,V.2.2.2),(6,.bool V.2.1,E6),(7,Iv V.2.2.1,E6)],[]⟩
def QK (O:ak bD)(J:bD)(d:((ak bD)×Bool×Bool×Int)):jb×bn:=(.exit 0,⟨[(0,sl 2 bA O,E6),(3,.aq (aN J),E6),(5,sl 2 bA d.1,d.2.1),(6,.bool d.2.2.1,E6),(7,Iv d.2.2.2,E6),(11,.bool E6,E6)],[]⟩)
theorem j1q (O:ak bD)(J:bD)(V:(ak bD)×Bool×Int×Bool)(r)(h:BN O J V=En r):jy pr QL (QJ O J) (QK O J) V r:=by
 unfold BN at h
 repeat' first|(replace h:=qb h;obtain⟨d,g,h⟩:=h;with_reducible first|replace g:=BA g|skip)|(replace h:=qc h;rcases h with⟨g,h⟩|⟨g,h⟩)
 all_goals (cases h<;>((first|refine qu ?_|refine jz ?_);simp only[go_sem,seval,QL,QJ,jq,QK, *]<;>rfl))
theorem jxn (O:ak bD)(J:bD){V d}(h:bq (BN O J) V=En d):X pr (.loop QL) (QJ O J V)=En (QK O J d):=z8 (j1q O J) h
def f217 (O:ak bD)(J:bD):Option ((ak bD)×Bool):=
 qa (bq (BN O J) (H3,E6,0,E6)) fun d40=>
 cond d40.2.2.1
  (En (d40.1,d40.2.1))
  (cond (decide (0<J.n))
   (cond d40.2.1
    (qa (bC d40.1 [J]) fun As=>
    En (As,Hc))
    (cond d40.1.isNone
     (qa (bC d40.1 [J]) fun Z9=>
     En (Z9,Hc))
     (H3)))
   (En (d40.1,d40.2.1)))
theorem zfg {O J r}(h:f217 O J=En r):ae pr (X pr) 217 [sl 2 bA O,aN J]=En (sl 2 bA r.1,r.2):=by
 unfold f217 at h;refine yq DN ?_
 repeat' first|(replace h:=qb h;obtain⟨d,g,h⟩:=h;with_reducible first|replace g:=BA g|(replace g:=jxn O J g;dsimp only[QJ,QK,zr]at g h)|skip)|(replace h:=qc h;rcases h with⟨g,h⟩|⟨g,h⟩)
 all_goals (cases h<;>(simp only[go_sem,seval,DN, *];exact⟨_,rfl⟩))
def BO (O:ak jg)(J:jg)(V:(ak jg)×Bool×Int×Bool):Option (((ak jg)×Bool×Int×Bool)⊕(((ak jg)×Bool×Bool×Int))):=
 cond (decide (V.2.2.1<((O.getD []).length:Int)))
  (qa (qm (O.getD []) V.2.2.1) fun v22=>
  cond (decide (v22.k=J.k))
   (cond V.2.2.2
    (qa (bC V.1 [J]) fun v26=>
    En (.inl (v26,Hc,qd .i64 (V.2.2.1+1),Hc)))
    (cond V.1.isNone
     (qa (bC V.1 [J]) fun eu=>
     En (.inl (eu,Hc,qd .i64 (V.2.2.1+1),Hc)))
     (H3)))
   (cond V.2.2.2
    (qa (bC V.1 [v22]) fun ig=>
    En (.inl (ig,V.2.1,qd .i64 (V.2.2.1+1),Hc)))
    (cond V.1.isNone
     (qa (bC V.1 [v22]) fun ou=>
     En (.inl (ou,V.2.1,qd .i64 (V.2.2.1+1),Hc)))
     (H3))))
  (En (.inr (V.1,V.2.2.2,V.2.1,V.2.2.1)))
def QM (O:ak jg)(J:jg)(V:(ak jg)×Bool×Int×Bool):bn:=⟨[(0,sl 3 jc O,E6),(3,.aq (aT J),E6),(5,sl 3 jc V.1,V.2.2.2),(6,.bool V.2.1,E6),(7,Iv V.2.2.1,E6)],[]⟩
def QN (O:ak jg)(J:jg)(d:((ak jg)×Bool×Bool×Int)):jb×bn:=(.exit 0,⟨[(0,sl 3 jc O,E6),(3,.aq (aT J),E6),(5,sl 3 jc d.1,d.2.1),(6,.bool d.2.2.1,E6),(7,Iv d.2.2.2,E6),(11,.bool E6,E6)],[]⟩)
theorem jyg (O:ak jg)(J:jg)(V:(ak jg)×Bool×Int×Bool)(r)(h:BO O J V=En r):jy pr QO (QM O J) (QN O J) V r:=by
 unfold BO at h
 repeat' first|(replace h:=qb h;obtain⟨d,g,h⟩:=h;with_reducible first|replace g:=F4 g|skip)|(replace h:=qc h;rcases h with⟨g,h⟩|⟨g,h⟩)
 all_goals (cases h<;>((first|refine qu ?_|refine jz ?_);simp only[go_sem,seval,QO,QM,jq,QN, *]<;>rfl))
theorem j27 (O:ak jg)(J:jg){V d}(h:bq (BO O J) V=En d):X pr (.loop QO) (QM O J V)=En (QN O J d):=z8 (jyg O J) h
def f218 (O:ak jg)(J:jg):Option ((ak jg)×Bool):=
 qa (bq (BO O J) (H3,E6,0,E6)) fun d37=>
 cond d37.2.2.1
  (En (d37.1,d37.2.1))
  (cond d37.2.1
   (qa (bC d37.1 [J]) fun DP=>
   En (DP,Hc))
   (cond d37.1.isNone
    (qa (bC d37.1 [J]) fun iV=>
    En (iV,Hc))
    (H3)))
theorem zeh {O J r}(h:f218 O J=En r):ae pr (X pr) 218 [sl 3 jc O,aT J]=En (sl 3 jc r.1,r.2):=by
 unfold f218 at h;refine yq DQ ?_
 repeat' first|(replace h:=qb h;obtain⟨d,g,h⟩:=h;with_reducible first|replace g:=F4 g|(replace g:=j27 O J g;dsimp only[QM,QN,zr]at g h)|skip)|(replace h:=qc h;rcases h with⟨g,h⟩|⟨g,h⟩)
 all_goals (cases h<;>(simp only[go_sem,seval,DQ, *];exact⟨_,rfl⟩))
def BP (O:ak bD)(J:aj)(a2:Int)(V:(ak bD)×Bool×Int×Bool):Option (((ak bD)×Bool×Int×Bool)⊕(((ak bD)×Bool×Bool×Int))):=
 cond (decide (V.2.2.1<((O.getD []).length:Int)))
  (qa (qm (O.getD []) V.2.2.1) fun v22=>
  cond (decide (v22.k=J))
   (cond V.2.2.2
    (qa (bC V.1 [⟨v22.k,qd .i64 (v22.n+a2)⟩]) fun v26=>
    En (.inl (v26,Hc,qd .i64 (V.2.2.1+1),Hc)))
    (cond V.1.isNone
     (qa (bC V.1 [⟨v22.k,qd .i64 (v22.n+a2)⟩]) fun eu=>
     En (.inl (eu,Hc,qd .i64 (V.2.2.1+1),Hc)))
     (H3)))
   (cond V.2.2.2
    (qa (bC V.1 [v22]) fun ig=>
    En (.inl (ig,V.2.1,qd .i64 (V.2.2.1+1),Hc)))
    (cond V.1.isNone
     (qa (bC V.1 [v22]) fun ou=>
     En (.inl (ou,V.2.1,qd .i64 (V.2.2.1+1),Hc)))
     (H3))))
  (En (.inr (V.1,V.2.2.2,V.2.1,V.2.2.1)))
def DR (O:ak bD)(J:aj)(a2:Int)(V:(ak bD)×Bool×Int×Bool):bn:=⟨[(0,sl 2 bA O,E6),(1,.str J,E6),(2,Iv a2,E6),(7,sl 2 bA V.1,V.2.2.2),(8,.bool V.2.1,E6),(9,Iv V.2.2.1,E6)],[]⟩
def Li (O:ak bD)(J:aj)(a2:Int)(d:((ak bD)×Bool×Bool×Int)):jb×bn:=(.exit 0,⟨[(0,sl 2 bA O,E6),(1,.str J,E6),(2,Iv a2,E6),(7,sl 2 bA d.1,d.2.1),(8,.bool d.2.2.1,E6),(9,Iv d.2.2.2,E6),(14,.bool E6,E6)],[]⟩)
theorem jxz (O:ak bD)(J:aj)(a2:Int)(V:(ak bD)×Bool×Int×Bool)(r)(h:BP O J a2 V=En r):jy pr Lj (DR O J a2) (Li O J a2) V r:=by
 unfold BP at h
 repeat' first|(replace h:=qb h;obtain⟨d,g,h⟩:=h;with_reducible first|replace g:=BA g|skip)|(replace h:=qc h;rcases h with⟨g,h⟩|⟨g,h⟩)
 all_goals (cases h<;>(first|(refine qu ?_;simp only[go_sem,seval,Lj,DR,jq,Li, *]<;>rfl)|(refine jbw ?_ rfl (by first|simp only[go_sem,seval,DR]|rfl) (by first|simp only[go_sem,seval,DR]|rfl);simp only[go_sem,seval,Lj,DR,jq,Li, *];exact⟨_,rfl⟩)))
theorem jya (O:ak bD)(J:aj)(a2:Int){V d}(h:bq (BP O J a2) V=En d):X pr (.loop Lj) (DR O J a2 V)=En (Li O J a2 d):=z8 (jxz O J a2) h
def f262 (O:ak bD)(J:aj)(a2:Int):Option ((ak bD)×Bool):=
 qa (bq (BP O J a2) (H3,E6,0,E6)) fun d37=>
 cond d37.2.2.1
  (En (d37.1,d37.2.1))
  (cond d37.2.1
   (qa (bC d37.1 [⟨J,a2⟩]) fun DP=>
   En (DP,Hc))
   (cond d37.1.isNone
    (qa (bC d37.1 [⟨J,a2⟩]) fun iV=>
    En (iV,Hc))
    (H3)))
theorem zer {O J a2 r}(h:f262 O J a2=En r):ae pr (X pr) 262 [sl 2 bA O,.str J,Iv a2]=En (sl 2 bA r.1,r.2):=by
 unfold f262 at h;refine yq DS ?_
 repeat' first|(replace h:=qb h;obtain⟨d,g,h⟩:=h;with_reducible first|replace g:=BA g|(replace g:=jya O J a2 g;dsimp only[DR,Li,zr]at g h)|skip)|(replace h:=qc h;rcases h with⟨g,h⟩|⟨g,h⟩)
 all_goals (cases h<;>(simp only[go_sem,seval,DS, *];exact⟨_,rfl⟩))
def f152 (O:aw)(J:GEv):Option (aw×Int):=
 qa (qm (J.names.getD []) 0) fun v1=>
 cond (decide (J.kind=([108,111,116]:aj)))
  (qa (f80 O v1) fun v4=>
  cond (decide (0<=v4))
   (En (O,9))
   (qa (qm (J.values.getD []) 1) fun v7=>
   qa (f151 v7 1 10000) fun v9=>
   cond v9
    (En (O,3))
    (cond (decide (64<=((O.az.getD []).length:Int)))
     (En (O,5))
     (qa (bC (En []) (O.az.getD [])) fun eM=>
     qa (qm (J.names.getD []) 1) fun dL=>
     qa (bC eM [⟨v1,dL,v7,v7,E6⟩]) fun fj=>
     En (⟨O.day,fj,O.ah,O.units⟩,0)))))
  (cond (decide (J.kind=([112,114,111,100,117,99,116]:aj)))
   (qa (f82 O v1) fun v20=>
   cond (decide (0<=v20))
    (En (O,9))
    (cond (decide (16<=((O.ah.getD []).length:Int)))
     (En (O,5))
     (qa (bC (En []) (O.ah.getD [])) fun v24=>
     qa (bC v24 [⟨v1,H3,H3,H3⟩]) fun v26=>
     En (⟨O.day,O.az,v26,O.units⟩,0))))
   (qa (qm (J.names.getD []) 1) fun v28=>
   qa (f82 O v28) fun v30=>
   cond (decide (v30<0))
    (En (O,10))
    (qa (f83 O v1) fun ox=>
    cond (decide (0<=ox))
     (En (O,9))
     (qa (qm (O.ah.getD []) v30) fun rU=>
     cond (decide (((rU.bm.getD []).length:Int)=0))
      (En (O,32))
      (cond (decide (256<=((O.units.getD []).length:Int)))
       (En (O,5))
       (qa (bC (En []) (O.units.getD [])) fun v40=>
       qa (bC v40 [⟨v1,v28,((rU.bm.getD []).length:Int),H3,H3,[],E6,0⟩]) fun v42=>
       En (⟨O.day,O.az,O.ah,v42⟩,0)))))))
theorem zdj {O J r}(h:f152 O J=En r):ae pr (X pr) 152 [aR O,aE J]=En (.aJ [aR r.1,Iv r.2],E6):=by
 unfold f152 at h;refine zg DT ?_
 repeat' first|(replace h:=qb h;obtain⟨d,g,h⟩:=h; (with_reducible first|replace g:=Lk g|replace g:=jk5 g|replace g:=QP g|replace g:=W83 g|replace g:=VL g|replace g:=q88 g|replace g:=Ou g|skip);try dsimp only[zr,nD,H9,jt,jf,je,qv,bE,z6,vev,bA,jc,y6,aE,aR,aU,aL,aP,aD]at g)|(replace h:=qc h;rcases h with⟨g,h⟩|⟨g,h⟩)
 all_goals (cases h<;>(simp only[go_sem,seval,DT,jq,nF, *];exact⟨_,rfl⟩))
end Go.Z
namespace Go.Z
open Go Go.Abs Go.W
def BR (J:aj)(dO:Int)(dG:aj)(xB:aj)(bh:Int)(bf:ak ji)(aY:ak bp)(aI:ak bw):Option (ak bp):=
 qa (f95 (⟨bh,bf,aY,aI⟩) J) fun v1=>
 qa (V5 aY v1 dO dG xB) fun v3=>
 En v3
theorem j8j {J dO dG xB bh bf aY aI x1 x2 x3 r}(h:BR J dO dG xB bh bf aY aI=En r):ai pr (X pr) 173 [.ptr 0 0,.str J,.fn (.func 174) [] [.aq (Iv dO),.aq (.fn (.func 171) [] [.aq (.str dG)]),.aq (.str xB)]] [kR bh bf aY aI,x1,x2,x3]=En (.aJ [],E6,[kR bh bf r aI,x1,x2,x3]):=by
 unfold BR at h;rw[qg (show pr.br 173=En ub from rfl) (by simp)]
 repeat' first|(replace h:=qb h;obtain⟨d,g,h⟩:=h;with_reducible first|replace g:=rZ g|replace g:=jn5 g|skip)|(replace h:=qc h;rcases h with⟨g,h⟩|⟨g,h⟩)
 all_goals (cases h<;>(simp only[go_sem,seval,ub, *]<;>rfl))
def Gh (J:aj)(dO:jg)(dG:jg)(bh:Int)(bf:ak ji)(aY:ak bp)(aI:ak bw):Option (ak bp):=
 qa (f95 (⟨bh,bf,aY,aI⟩) J) fun v1=>
 qa (V6 aY v1 dO dG) fun v3=>
 En v3
theorem j78 {J dO dG bh bf aY aI x1 x2 x3 r}(h:Gh J dO dG bh bf aY aI=En r):ai pr (X pr) 173 [.ptr 0 0,.str J,.fn (.func 180) [] [.aq (aT dO),.aq (.fn (.func 178) [] [.aq (aT dG)])]] [kR bh bf aY aI,x1,x2,x3]=En (.aJ [],E6,[kR bh bf r aI,x1,x2,x3]):=by
 unfold Gh at h;obtain⟨v1,I,h⟩:=qb h;have gE:ae pr (X pr) 95 [aG bh bf aY aI,.str J]=En (Iv v1,E6):=rZ I;obtain⟨v3,h4,h⟩:=qb h;have qO:ae pr (X pr) 182 [sl 4 qv aY,Iv v1,.fn (.func 229) [] [.aq (.fn (.func 180) [] [.aq (aT dO),.aq (.fn (.func 178) [] [.aq (aT dG)])])]]=En (sl 4 qv v3,E6):=jmx h4;have Q:v3=r:=En.inj h;subst Q;rw[qg (show pr.br 173=En ub from rfl) (by simp)];simp only[go_sem,seval,ub,gE,qO]<;>rfl
def f106 (J:GEv)(bh:Int)(bf:ak ji)(aY:ak bp)(aI:ak bw):Option (Int×(ak ji)×Bool):=
 qa (qm (J.names.getD []) 0) fun v1=>
 qa (f58 (⟨bh,bf,aY,aI⟩) v1) fun v3=>
 qa (f36 (decide (0<=v3)) 9) fun v5=>
 qa (qm (J.values.getD []) 1) fun v7=>
 qa (f124 v7 1 10000) fun v9=>
 qa (f36 (decide (64<=((bf.getD []).length:Int))) 5) fun v11=>
 qa (f35 (En [v5,v9,v11])) fun eM=>
 cond (decide (eM=0))
  (qa (qm (J.names.getD []) 1) fun eg=>
  qa (f169 bf (⟨v1,eg,v7,v7,E6⟩)) fun eT=>
  En (0,eT,Hc))
  (En (eM,bf,E6))
theorem zkg {J bh bf aY aI x1 x2 x3 r}(h:f106 J bh bf aY aI=En r):ai pr (X pr) 106 [.ptr 0 0,aE J] [kR bh bf aY aI,x1,x2,x3]=En (Iv r.1,E6,[kS bh r.2.1 r.2.2 aY E6 aI E6,x1,x2,x3]):=by
 unfold f106 at h;rw[qg (show pr.br 106=En DU from rfl) (by simp)]
 repeat' first|(replace h:=qb h;obtain⟨d,g,h⟩:=h; (with_reducible first|replace g:=CV g|replace g:=dE g|replace g:=QQ g|replace g:=fY g|replace g:=zea g|skip);try dsimp only[zr,nD,H9,jt,jf,je,qv,bE,z6,vev,bA,jc,y6,aE,aR,aU,aL,aP,aD]at g)|(replace h:=qc h;rcases h with⟨g,h⟩|⟨g,h⟩)
 all_goals (cases h<;>(simp only[go_sem,seval,DU,jq, *]<;>rfl))
def f107 (J:GEv)(bh:Int)(bf:ak ji)(aY:ak bp)(aI:ak bw):Option (Int×(ak bp)×Bool):=
 qa (qm (J.names.getD []) 0) fun v1=>
 qa (f95 (⟨bh,bf,aY,aI⟩) v1) fun v3=>
 qa (f36 (decide (0<=v3)) 9) fun v5=>
 qa (f36 (decide (16<=((aY.getD []).length:Int))) 5) fun v7=>
 qa (f35 (En [v5,v7])) fun v9=>
 cond (decide (v9=0))
  (qa (f170 aY (⟨v1,H3,H3,H3⟩)) fun v12=>
  En (0,v12,Hc))
  (En (v9,aY,E6))
theorem zgb {J bh bf aY aI x1 x2 x3 r}(h:f107 J bh bf aY aI=En r):ai pr (X pr) 107 [.ptr 0 0,aE J] [kR bh bf aY aI,x1,x2,x3]=En (Iv r.1,E6,[kS bh bf E6 r.2.1 r.2.2 aI E6,x1,x2,x3]):=by
 unfold f107 at h;rw[qg (show pr.br 107=En DV from rfl) (by simp)]
 repeat' first|(replace h:=qb h;obtain⟨d,g,h⟩:=h; (with_reducible first|replace g:=rZ g|replace g:=dE g|replace g:=fY g|replace g:=zgm g|skip);try dsimp only[zr,nD,H9,jt,jf,je,qv,bE,z6,vev,bA,jc,y6,aE,aR,aU,aL,aP,aD]at g)|(replace h:=qc h;rcases h with⟨g,h⟩|⟨g,h⟩)
 all_goals (cases h<;>(simp only[go_sem,seval,DV,jq, *]<;>rfl))
def f108 (J:GEv)(bh:Int)(bf:ak ji)(aY:ak bp)(aI:ak bw):Option (Int×(ak bp)):=
 qa (qm (J.names.getD []) 1) fun v1=>
 qa (qm (J.values.getD []) 1) fun v3=>
 qa (qm (J.names.getD []) 0) fun v5=>
 qa (f95 (⟨bh,bf,aY,aI⟩) v5) fun v7=>
 qa (qm (aY.getD []) v7) fun v9=>
 qa (f124 v3 0 10000) fun v11=>
 cond (decide (0<v3))
  (qa (JR v9.dn v1) fun dj=>
  cond dj
   (qa (f36 E6 5) fun fj=>
   qa (f35 (En [v11,fj])) fun ln=>
   cond (decide (ln=0))
    (qa (BR v5 v3 v1 v1 bh bf aY aI) fun v22=>
    En (0,v22))
    (En (ln,aY)))
   (qa (f36 (decide (16<=((v9.dn.getD []).length:Int))) 5) fun v24=>
   qa (f35 (En [v11,v24])) fun v26=>
   cond (decide (v26=0))
    (qa (BR v5 v3 v1 v1 bh bf aY aI) fun eu=>
    En (0,eu))
    (En (v26,aY))))
  (qa (f36 E6 5) fun v31=>
  qa (f35 (En [v11,v31])) fun ox=>
  cond (decide (ox=0))
   (qa (BR v5 v3 v1 v1 bh bf aY aI) fun rU=>
   En (0,rU))
   (En (ox,aY)))
theorem zdh {J bh bf aY aI x1 x2 x3 r}(h:f108 J bh bf aY aI=En r):ai pr (X pr) 108 [.ptr 0 0,aE J] [kR bh bf aY aI,x1,x2,x3]=En (Iv r.1,E6,[kR bh bf r.2 aI,x1,x2,x3]):=by
 unfold f108 at h;rw[qg (show pr.br 108=En DW from rfl) (by simp)]
 repeat' first|(replace h:=qb h;obtain⟨d,g,h⟩:=h; (with_reducible first|replace g:=rZ g|replace g:=QQ g|replace g:=j72 g|replace g:=dE g|replace g:=fY g|replace g:=j8j (x1:=x1) (x2:=x2) (x3:=x3) g|skip);try dsimp only[zr,nD,H9,jt,jf,je,qv,bE,z6,vev,bA,jc,y6,aE,aR,aU,aL,aP,aD]at g)|(replace h:=qc h;rcases h with⟨g,h⟩|⟨g,h⟩)
 all_goals (cases h<;>(simp only[go_sem,seval,DW,jq, *]<;>rfl))
def f109 (J:GEv)(bh:Int)(bf:ak ji)(aY:ak bp)(aI:ak bw):Option (Int×(ak bp)):=
 qa (qm (J.names.getD []) 1) fun v1=>
 qa (qm (J.values.getD []) 1) fun v3=>
 qa (qm (J.values.getD []) 2) fun v5=>
 qa (qm (J.names.getD []) 0) fun v7=>
 qa (f95 (⟨bh,bf,aY,aI⟩) v7) fun v9=>
 qa (qm (aY.getD []) v9) fun v11=>
 qa (f36 (decide (v5<v3)) 11) fun eM=>
 qa (JV v11.dt (⟨v1,v3,v5⟩)) fun dL=>
 cond dL
  (qa (f36 E6 5) fun eT=>
  qa (f35 (En [eM,eT])) fun v20=>
  cond (decide (v20=0))
   (qa (Gh v7 (⟨v1,v3,v5⟩) (⟨v1,v3,v5⟩) bh bf aY aI) fun v23=>
   En (0,v23))
   (En (v20,aY)))
  (qa (f36 (decide (16<=((v11.dt.getD []).length:Int))) 5) fun v25=>
  qa (f35 (En [eM,v25])) fun qM=>
  cond (decide (qM=0))
   (qa (Gh v7 (⟨v1,v3,v5⟩) (⟨v1,v3,v5⟩) bh bf aY aI) fun v30=>
   En (0,v30))
   (En (qM,aY)))
theorem zd2 {J bh bf aY aI x1 x2 x3 r}(h:f109 J bh bf aY aI=En r):ai pr (X pr) 109 [.ptr 0 0,aE J] [kR bh bf aY aI,x1,x2,x3]=En (Iv r.1,E6,[kR bh bf r.2 aI,x1,x2,x3]):=by
 unfold f109 at h;rw[qg (show pr.br 109=En DX from rfl) (by simp)]
 repeat' first|(replace h:=qb h;obtain⟨d,g,h⟩:=h; (with_reducible first|replace g:=rZ g|replace g:=dE g|replace g:=j58 g|replace g:=fY g|replace g:=j78 (x1:=x1) (x2:=x2) (x3:=x3) g|skip);try dsimp only[zr,nD,H9,jt,jf,je,qv,bE,z6,vev,bA,jc,y6,aE,aR,aU,aL,aP,aD]at g)|(replace h:=qc h;rcases h with⟨g,h⟩|⟨g,h⟩)
 all_goals (cases h<;>(simp only[go_sem,seval,DX,jq, *]<;>rfl))
def f110 (J:GEv)(bh:Int)(bf:ak ji)(aY:ak bp)(aI:ak bw):Option (Int×(ak bp)):=
 qa (qm (J.names.getD []) 0) fun v1=>
 qa (f95 (⟨bh,bf,aY,aI⟩) v1) fun v3=>
 qa (qm (aY.getD []) v3) fun v5=>
 qa (f36 (decide (((v5.dn.getD []).length:Int)=0)) 12) fun v7=>
 qa (f36 (decide (100<=((v5.bm.getD []).length:Int))) 5) fun v9=>
 qa (f35 (En [v7,v9])) fun v11=>
 cond (decide (v11=0))
  (qa (OG aY v3) fun dj=>
  En (0,dj))
  (En (v11,aY))
theorem zft {J bh bf aY aI x1 x2 x3 r}(h:f110 J bh bf aY aI=En r):ai pr (X pr) 110 [.ptr 0 0,aE J] [kR bh bf aY aI,x1,x2,x3]=En (Iv r.1,E6,[kR bh bf r.2 aI,x1,x2,x3]):=by
 unfold f110 at h;rw[qg (show pr.br 110=En DY from rfl) (by simp)]
 repeat' first|(replace h:=qb h;obtain⟨d,g,h⟩:=h; (with_reducible first|replace g:=rZ g|replace g:=dE g|replace g:=fY g|replace g:=jpr g|skip);try dsimp only[zr,nD,H9,jt,jf,je,qv,bE,z6,vev,bA,jc,y6,aE,aR,aU,aL,aP,aD]at g)|(replace h:=qc h;rcases h with⟨g,h⟩|⟨g,h⟩)
 all_goals (cases h<;>(simp only[go_sem,seval,DY,jq, *]<;>rfl))
def f111 (J:GEv)(bh:Int)(bf:ak ji)(aY:ak bp)(aI:ak bw):Option (Int×(ak bw)×Bool):=
 qa (qm (J.names.getD []) 1) fun v1=>
 qa (f95 (⟨bh,bf,aY,aI⟩) v1) fun v3=>
 qa (qm (aY.getD []) v3) fun v5=>
 qa (f96 v5) fun v7=>
 qa (qm (J.names.getD []) 0) fun v9=>
 qa (f69 (⟨bh,bf,aY,aI⟩) v9) fun v11=>
 qa (f36 (decide (0<=v11)) 9) fun eM=>
 qa (f36 (decide (v7=0)) 32) fun dL=>
 qa (f36 (decide (256<=((aI.getD []).length:Int))) 5) fun fj=>
 qa (f35 (En [eM,dL,fj])) fun ln=>
 cond (decide (ln=0))
  (qa (f186 aI (⟨v9,v1,v7,H3,H3,[],E6,0⟩)) fun v22=>
  En (0,v22,Hc))
  (En (ln,aI,E6))
theorem zcu {J bh bf aY aI x1 x2 x3 r}(h:f111 J bh bf aY aI=En r):ai pr (X pr) 111 [.ptr 0 0,aE J] [kR bh bf aY aI,x1,x2,x3]=En (Iv r.1,E6,[kS bh bf E6 aY E6 r.2.1 r.2.2,x1,x2,x3]):=by
 unfold f111 at h;rw[qg (show pr.br 111=En DZ from rfl) (by simp)]
 repeat' first|(replace h:=qb h;obtain⟨d,g,h⟩:=h; (with_reducible first|replace g:=rZ g|replace g:=Zi g|replace g:=tP g|replace g:=dE g|replace g:=fY g|replace g:=zgy g|skip);try dsimp only[zr,nD,H9,jt,jf,je,qv,bE,z6,vev,bA,jc,y6,aE,aR,aU,aL,aP,aD]at g)|(replace h:=qc h;rcases h with⟨g,h⟩|⟨g,h⟩)
 all_goals (cases h<;>(simp only[go_sem,seval,DZ,jq, *]<;>rfl))
def f113 (J:GEv)(bh:Int)(bf:ak ji)(aY:ak bp)(aI:ak bw):Option (Int×(ak bw)):=
 qa (qm (J.names.getD []) 0) fun v1=>
 qa (f69 (⟨bh,bf,aY,aI⟩) v1) fun v3=>
 qa (qm (aI.getD []) v3) fun v5=>
 qa (f161 (⟨bh,bf,aY,aI⟩) v5) fun v7=>
 qa (JW v7.aS J) fun v9=>
 qa (f36 v5.ax 21) fun v11=>
 qa (f36 (!v9) 7) fun eM=>
 qa (f36 (decide (64<=((v5.results.getD []).length:Int))) 5) fun dL=>
 qa (f35 (En [v11,eM,dL])) fun fj=>
 cond (decide (fj=0))
  (qa (Wd aI v3 J) fun v20=>
  En (0,v20))
  (En (fj,aI))
theorem zcc {J bh bf aY aI x1 x2 x3 r}(h:f113 J bh bf aY aI=En r):ai pr (X pr) 113 [.ptr 0 0,aE J] [kR bh bf aY aI,x1,x2,x3]=En (Iv r.1,E6,[kR bh bf aY r.2,x1,x2,x3]):=by
 unfold f113 at h;rw[qg (show pr.br 113=En D0 from rfl) (by simp)]
 repeat' first|(replace h:=qb h;obtain⟨d,g,h⟩:=h; (with_reducible first|replace g:=tP g|replace g:=QR g|replace g:=j7t g|replace g:=dE g|replace g:=fY g|replace g:=jpp g|skip);try dsimp only[zr,nD,H9,jt,jf,je,qv,bE,z6,vev,bA,jc,y6,aE,aR,aU,aL,aP,aD]at g)|(replace h:=qc h;rcases h with⟨g,h⟩|⟨g,h⟩)
 all_goals (cases h<;>(simp only[go_sem,seval,D0,jq, *]<;>rfl))
def f114 (J:GEv)(bh:Int)(bf:ak ji)(aY:ak bp)(aI:ak bw):Option (Int×(ak bw)):=
 qa (qm (J.names.getD []) 0) fun v1=>
 qa (f69 (⟨bh,bf,aY,aI⟩) v1) fun v3=>
 qa (qm (aI.getD []) v3) fun v5=>
 qa (f198 (⟨bh,bf,aY,aI⟩) v5) fun v7=>
 qa (f36 v5.ax 21) fun v9=>
 qa (f36 (decide (v5.version=v7)) 32) fun v11=>
 qa (f35 (En [v9,v11])) fun eM=>
 cond (decide (eM=0))
  (qa (Wa aI v3 v7) fun eg=>
  En (0,eg))
  (En (eM,aI))
theorem zkl {J bh bf aY aI x1 x2 x3 r}(h:f114 J bh bf aY aI=En r):ai pr (X pr) 114 [.ptr 0 0,aE J] [kR bh bf aY aI,x1,x2,x3]=En (Iv r.1,E6,[kR bh bf aY r.2,x1,x2,x3]):=by
 unfold f114 at h;rw[qg (show pr.br 114=En D1 from rfl) (by simp)]
 repeat' first|(replace h:=qb h;obtain⟨d,g,h⟩:=h; (with_reducible first|replace g:=tP g|replace g:=jzx g|replace g:=dE g|replace g:=fY g|replace g:=jok g|skip);try dsimp only[zr,nD,H9,jt,jf,je,qv,bE,z6,vev,bA,jc,y6,aE,aR,aU,aL,aP,aD]at g)|(replace h:=qc h;rcases h with⟨g,h⟩|⟨g,h⟩)
 all_goals (cases h<;>(simp only[go_sem,seval,D1,jq, *]<;>rfl))
def f115 (J:GEv)(bh:Int)(bf:ak ji)(aY:ak bp)(aI:ak bw):Option (Int×(ak bw)):=
 qa (qm (J.names.getD []) 0) fun v1=>
 qa (f69 (⟨bh,bf,aY,aI⟩) v1) fun v3=>
 qa (qm (J.names.getD []) 1) fun v5=>
 qa (f69 (⟨bh,bf,aY,aI⟩) v5) fun v7=>
 qa (qm (aI.getD []) v3) fun v9=>
 qa (qm (aI.getD []) v7) fun v11=>
 qa (f36 (decide (v3=v7)) 9) fun eM=>
 cond (decide (v9.product=v11.product))
  (qa (f36 (!decide (v9.version=v11.version)) 30) fun eg=>
  cond v9.ax
   (qa (f36 Hc 21) fun ln=>
   cond (decide (v9.partner=[]))
    (qa (f36 (!decide (v11.partner=[])) 35) fun v22=>
    qa (f35 (En [eM,eg,ln,v22])) fun v24=>
    cond (decide (v24=0))
     (qa (vt aI v3 v11) fun qM=>
     qa (vu qM v7 (⟨v9.name,v9.product,v9.version,v9.uses,v9.results,v9.partner,Hc,v9.au⟩)) fun eu=>
     En (0,eu))
     (En (v24,aI)))
    (qa (f36 Hc 35) fun v31=>
    qa (f35 (En [eM,eg,ln,v31])) fun ox=>
    cond (decide (ox=0))
     (qa (vt aI v3 v11) fun rU=>
     qa (vu rU v7 (⟨v9.name,v9.product,v9.version,v9.uses,v9.results,v9.partner,Hc,v9.au⟩)) fun tQ=>
     En (0,tQ))
     (En (ox,aI))))
   (qa (f36 v11.ax 21) fun v40=>
   cond (decide (v9.partner=[]))
    (qa (f36 (!decide (v11.partner=[])) 35) fun Ll=>
    qa (f35 (En [eM,eg,v40,Ll])) fun As=>
    cond (decide (As=0))
     (qa (vt aI v3 v11) fun Z9=>
     qa (vu Z9 v7 (⟨v9.name,v9.product,v9.version,v9.uses,v9.results,v9.partner,E6,v9.au⟩)) fun v50=>
     En (0,v50))
     (En (As,aI)))
    (qa (f36 Hc 35) fun v52=>
    qa (f35 (En [eM,eg,v40,v52])) fun QS=>
    cond (decide (QS=0))
     (qa (vt aI v3 v11) fun QT=>
     qa (vu QT v7 (⟨v9.name,v9.product,v9.version,v9.uses,v9.results,v9.partner,E6,v9.au⟩)) fun v59=>
     En (0,v59))
     (En (QS,aI)))))
  (qa (f36 Hc 30) fun xC=>
  cond v9.ax
   (qa (f36 Hc 21) fun v64=>
   cond (decide (v9.partner=[]))
    (qa (f36 (!decide (v11.partner=[])) 35) fun v67=>
    qa (f35 (En [eM,xC,v64,v67])) fun v69=>
    cond (decide (v69=0))
     (qa (vt aI v3 v11) fun v72=>
     qa (vu v72 v7 (⟨v9.name,v9.product,v9.version,v9.uses,v9.results,v9.partner,Hc,v9.au⟩)) fun v74=>
     En (0,v74))
     (En (v69,aI)))
    (qa (f36 Hc 35) fun v76=>
    qa (f35 (En [eM,xC,v64,v76])) fun v78=>
    cond (decide (v78=0))
     (qa (vt aI v3 v11) fun v81=>
     qa (vu v81 v7 (⟨v9.name,v9.product,v9.version,v9.uses,v9.results,v9.partner,Hc,v9.au⟩)) fun v83=>
     En (0,v83))
     (En (v78,aI))))
   (qa (f36 v11.ax 21) fun v85=>
   cond (decide (v9.partner=[]))
    (qa (f36 (!decide (v11.partner=[])) 35) fun v88=>
    qa (f35 (En [eM,xC,v85,v88])) fun QU=>
    cond (decide (QU=0))
     (qa (vt aI v3 v11) fun v93=>
     qa (vu v93 v7 (⟨v9.name,v9.product,v9.version,v9.uses,v9.results,v9.partner,E6,v9.au⟩)) fun v95=>
     En (0,v95))
     (En (QU,aI)))
    (qa (f36 Hc 35) fun v97=>
    qa (f35 (En [eM,xC,v85,v97])) fun QV=>
    cond (decide (QV=0))
     (qa (vt aI v3 v11) fun v102=>
     qa (vu v102 v7 (⟨v9.name,v9.product,v9.version,v9.uses,v9.results,v9.partner,E6,v9.au⟩)) fun v104=>
     En (0,v104))
     (En (QV,aI)))))
theorem zf8 {J bh bf aY aI x1 x2 x3 r}(h:f115 J bh bf aY aI=En r):ai pr (X pr) 115 [.ptr 0 0,aE J] [kR bh bf aY aI,x1,x2,x3]=En (Iv r.1,E6,[kR bh bf aY r.2,x1,x2,x3]):=by
 unfold f115 at h;rw[qg (show pr.br 115=En D3 from rfl) (by simp)]
 repeat' first|(replace h:=qb h;obtain⟨d,g,h⟩:=h; (with_reducible first|replace g:=tP g|replace g:=dE g|replace g:=fY g|replace g:=jlw g|replace g:=jol g|skip);try dsimp only[zr,nD,H9,jt,jf,je,qv,bE,z6,vev,bA,jc,y6,aE,aR,aU,aL,aP,aD]at g)|(replace h:=qc h;rcases h with⟨g,h⟩|⟨g,h⟩)
 all_goals (cases h<;>(simp only[go_sem,seval,D3,jq, *]<;>rfl))
def f116 (J:GEv)(bh:Int)(bf:ak ji)(aY:ak bp)(aI:ak bw):Option (Int×(ak ji)):=
 qa (qm (J.names.getD []) 0) fun v1=>
 qa (f58 (⟨bh,bf,aY,aI⟩) v1) fun v3=>
 qa (qm (bf.getD []) v3) fun v5=>
 cond v5.held
  (En (34,bf))
  (qa (V7 bf v3) fun v8=>
  En (0,v8))
theorem zfh {J bh bf aY aI x1 x2 x3 r}(h:f116 J bh bf aY aI=En r):ai pr (X pr) 116 [.ptr 0 0,aE J] [kR bh bf aY aI,x1,x2,x3]=En (Iv r.1,E6,[kR bh r.2 aY aI,x1,x2,x3]):=by
 unfold f116 at h;rw[qg (show pr.br 116=En D5 from rfl) (by simp)]
 repeat' first|(replace h:=qb h;obtain⟨d,g,h⟩:=h;with_reducible first|replace g:=CV g|replace g:=jo7 g|skip)|(replace h:=qc h;rcases h with⟨g,h⟩|⟨g,h⟩)
 all_goals (cases h<;>(simp only[go_sem,seval,D5,jq, *]<;>rfl))
def f117 (J:GEv)(bh:Int)(bf:ak ji)(aY:ak bp)(aI:ak bw):Option (Int×(ak ji)):=
 qa (qm (J.names.getD []) 0) fun v1=>
 qa (f58 (⟨bh,bf,aY,aI⟩) v1) fun v3=>
 qa (qm (bf.getD []) v3) fun v5=>
 cond v5.held
  (qa (V8 bf v3) fun v8=>
  En (0,v8))
  (En (20,bf))
theorem zjh {J bh bf aY aI x1 x2 x3 r}(h:f117 J bh bf aY aI=En r):ai pr (X pr) 117 [.ptr 0 0,aE J] [kR bh bf aY aI,x1,x2,x3]=En (Iv r.1,E6,[kR bh r.2 aY aI,x1,x2,x3]):=by
 unfold f117 at h;rw[qg (show pr.br 117=En D6 from rfl) (by simp)]
 repeat' first|(replace h:=qb h;obtain⟨d,g,h⟩:=h;with_reducible first|replace g:=CV g|replace g:=jkx g|skip)|(replace h:=qc h;rcases h with⟨g,h⟩|⟨g,h⟩)
 all_goals (cases h<;>(simp only[go_sem,seval,D6,jq, *]<;>rfl))
def f119 (J:GEv)(bh:Int)(bf:ak ji)(aY:ak bp)(aI:ak bw):Option (Int×(ak bw)):=
 qa (qm (J.names.getD []) 0) fun v1=>
 qa (f69 (⟨bh,bf,aY,aI⟩) v1) fun v3=>
 qa (qm (aI.getD []) v3) fun v5=>
 cond v5.ax
  (qa (Wc aI v3) fun v8=>
  En (0,v8))
  (En (20,aI))
theorem zeb {J bh bf aY aI x1 x2 x3 r}(h:f119 J bh bf aY aI=En r):ai pr (X pr) 119 [.ptr 0 0,aE J] [kR bh bf aY aI,x1,x2,x3]=En (Iv r.1,E6,[kR bh bf aY r.2,x1,x2,x3]):=by
 unfold f119 at h;rw[qg (show pr.br 119=En D7 from rfl) (by simp)]
 repeat' first|(replace h:=qb h;obtain⟨d,g,h⟩:=h;with_reducible first|replace g:=tP g|replace g:=jm2 g|skip)|(replace h:=qc h;rcases h with⟨g,h⟩|⟨g,h⟩)
 all_goals (cases h<;>(simp only[go_sem,seval,D7,jq, *]<;>rfl))
end Go.Z
namespace Go.Z
open Go Go.Abs Go.W
def f112 (J:GEv)(bh:Int)(bf:ak ji)(aY:ak bp)(aI:ak bw):Option (Int×(ak ji)×(ak bw)):=
 qa (qm (J.names.getD []) 0) fun v1=>
 qa (f69 (⟨bh,bf,aY,aI⟩) v1) fun v3=>
 qa (qm (J.names.getD []) 1) fun v5=>
 qa (f58 (⟨bh,bf,aY,aI⟩) v5) fun v7=>
 qa (qm (J.values.getD []) 1) fun v9=>
 qa (qm (aI.getD []) v3) fun v11=>
 qa (qm (bf.getD []) v7) fun eM=>
 qa (f161 (⟨bh,bf,aY,aI⟩) v11) fun dL=>
 qa (JT dL.bd eM) fun fj=>
 qa (f36 v11.ax 21) fun ln=>
 qa (f36 (decide (v9=0)) 3) fun v21=>
 qa (f36 eM.held 34) fun v23=>
 qa (f36 (!fj) 7) fun v25=>
 qa (f36 (decide (eM.left<v9)) 4) fun qM=>
 qa (f35 (En [ln,v21,v23,v25,qM])) fun eu=>
 cond (decide (eu=0))
  (qa (Wf bf v7 v9) fun ig=>
  qa (f191 v11.uses eM) fun QW=>
  cond (decide (0<=QW))
   (qa (qm (v11.uses.getD []) QW) fun v37=>
   qa (gu aI v3 (Gi ⟨eM.name,qd .i64 (v9+v37.n)⟩ eM)) fun us=>En (eu,ig,us))
   (qa (gu aI v3 (Gi ⟨eM.name,v9⟩ eM)) fun us=>En (eu,ig,us)))
  (En (eu,bf,aI))
theorem zhz {J bh bf aY aI x1 x2 x3 r}(h:f112 J bh bf aY aI=En r):
  (r.1≠0/\r.2=(bf,aI)/\ai pr (X pr) 112 [.ptr 0 0,aE J] [kR bh bf aY aI,x1,x2,x3]=En (Iv r.1,E6,[kR bh bf aY aI,x1,x2,x3])) \/
  (r.1=0/\∃(n:Nat) (b:aK) (cs:List (AVal×Bool)),ai pr (X pr) 112 [.ptr 0 0,aE J] [kR bh bf aY aI,x1,x2,x3]=En (Iv 0,E6,[.cells [(Iv bh,E6),(sl 5 je r.2.1,E6),(sl 4 qv aY,E6),(.ms 5 0 n,E6)],x1,x2,x3,b,.cells cs])/\cs.map (·.1)=zk bE (r.2.2.getD [])/\n=(r.2.2.getD []).length/\0<n):=by
 unfold f112 at h;obtain⟨v1,I,h⟩:=qb h;obtain⟨v3,h4,h⟩:=qb h;have qO:ae pr (X pr) 69 [aG bh bf aY aI,.str v1]=En (Iv v3,E6):=tP h4;obtain⟨v5,h6,h⟩:=qb h;obtain⟨v7,h8,h⟩:=qb h;have rT:ae pr (X pr) 58 [aG bh bf aY aI,.str v5]=En (Iv v7,E6):=CV h8;obtain⟨v9,et,h⟩:=qb h;obtain⟨v11,kG,h⟩:=qb h;obtain⟨eM,jS,h⟩:=qb h;obtain⟨dL,kF,h⟩:=qb h;have qI:ae pr (X pr) 161 [aG bh bf aY aI,aU v11]=En (aD dL,E6):=QR kF;obtain⟨fj,Kx,h⟩:=qb h;have qJ:ae pr (X pr) 172 [sl 2 bA dL.bd,.fn (.func 187) [] [.aq (aL eM)]]=En (.bool fj,E6):=j8n Kx;obtain⟨ln,s7,h⟩:=qb h;have qK:ae pr (X pr) 36 [.bool v11.ax,Iv 21]=En (Iv ln,E6):=dE s7;obtain⟨v21,nz,h⟩:=qb h;have qL:ae pr (X pr) 36 [.bool (decide (v9=0)),Iv 3]=En (Iv v21,E6):=dE nz;obtain⟨v23,wG,h⟩:=qb h;have D8:ae pr (X pr) 36 [.bool eM.held,Iv 34]=En (Iv v23,E6):=dE wG;obtain⟨v25,rR,h⟩:=qb h;have D9:ae pr (X pr) 36 [.bool (!fj),Iv 7]=En (Iv v25,E6):=dE rR;obtain⟨qM,vJ,h⟩:=qb h;have tM:ae pr (X pr) 36 [.bool (decide (eM.left<v9)),Iv 4]=En (Iv qM,E6):=dE vJ;obtain⟨eu,Ky,h⟩:=qb h;have kH:ae pr (X pr) 35 [.list E6 1 [Iv ln,Iv v21,Iv v23,Iv v25,Iv qM]]=En (Iv eu,E6):=fY Ky;rcases qc h with⟨lV,h⟩|⟨lV,h⟩
 .obtain⟨ig,zT,h⟩:=qb h;have qN:ae pr (X pr) 188 [sl 5 je bf,Iv v7,.fn (.func 189) [] [.aq (Iv v9)]]=En (sl 5 je ig,E6):=jov zT;obtain⟨QW,ov,h⟩:=qb h;have Lm:ae pr (X pr) 191 [sl 2 bA v11.uses,.fn (.func 190) [] [.aq (aL eM)]]=En (Iv QW,E6):=jyb ov;rcases qc h with⟨xr,h⟩|⟨xr,h⟩
  .obtain⟨v37,KG,h⟩:=qb h;obtain⟨us,hu,h⟩:=qb h;cases h;obtain⟨n,x,y,rfl,hl,M,hy,rfl⟩:=Ar hu;obtain⟨cs,g1,g2⟩:=jxv (b0:=(kR bh ig aY aI)) (b1:=x1) (b2:=x2) (b3:=x3) M hy;have w:=jqw hl (Hb.1 M).1 g1;simp only[q4g]at w;refine .inr ⟨of_decide_eq_true lV,(aI.getD []).length,.cells [(.str eM.name,E6),(Iv (qd .i64 (v9+v37.n)),E6)],cs,?_,g2,by simp,by have:=(Hb.1 M).1;omega⟩;rw[qg (show pr.br 112=En oF from rfl) (by simp)];simp only[go_sem,seval,oF,jm I,qO,jm h6,rT,jm et,jm kG,jm jS,qI,qJ,qK,qL,D8,D9,tM,kH,lV,qN,Lm,xr,jm KG,w,(show ∀n,below 5 (.ms 5 0 n)=E6 from fun _=>rfl),Iw,cond_false]
  .obtain⟨us,hu,h⟩:=qb h;cases h;obtain⟨n,x,y,rfl,hl,M,hy,rfl⟩:=Ar hu;obtain⟨cs,g1,g2⟩:=jxv (b0:=(kR bh ig aY aI)) (b1:=x1) (b2:=x2) (b3:=x3) M hy;have w:=jqw hl (Hb.1 M).1 g1;simp only[q4g]at w;refine .inr ⟨of_decide_eq_true lV,(aI.getD []).length,.cells [(.str eM.name,E6),(Iv v9,E6)],cs,?_,g2,by simp,by have:=(Hb.1 M).1;omega⟩;rw[qg (show pr.br 112=En oF from rfl) (by simp)];simp only[go_sem,seval,oF,jm I,qO,jm h6,rT,jm et,jm kG,jm jS,qI,qJ,qK,qL,D8,D9,tM,kH,lV,qN,Lm,xr,w,(show ∀n,below 5 (.ms 5 0 n)=E6 from fun _=>rfl),Iw,cond_false]
 .cases h;refine .inl ⟨of_decide_eq_false lV,rfl,?_⟩;rw[qg (show pr.br 112=En oF from rfl) (by simp)];simp only[go_sem,seval,oF,jm I,qO,jm h6,rT,jm et,jm kG,jm jS,qI,qJ,qK,qL,D8,D9,tM,kH,lV]<;>rfl
end Go.Z
end
