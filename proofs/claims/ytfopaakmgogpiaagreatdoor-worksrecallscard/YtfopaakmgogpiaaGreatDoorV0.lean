/- Chapter 10. -/
import Derived.Test.YtfopaakmgogpiaaGreatDoorW6
import Derived.Test.YtfopaakmgogpiaaGreatDoorW4
set_option linter.unusedVariables false
set_option linter.unusedSimpArgs false
set_option maxRecDepth 100000
noncomputable section
open Option renaming some→I,none→Ep
open Bool renaming false→Eh,true→Ev,and_self→Gl
open Nat renaming le_of_ble_eq_true→Ek,beq_refl→Ga,ble_eq_true_of_le→Gb,beq→Gc,blt_eq→Gk
open List renaming replicate→En,getElem?_eq_some_iff→Eo,length_set→Eu,take_of_length_le→Ge,drop_eq_nil_of_le→Gf,length_map→Gh,nil_append→Gi,map→Gm
namespace Go.Z
open Go Go.Abs Go.W
section
variable {p:qr}{xc:XC}{h0:Nat}{al:Option (List Nat)}{e:Env}{h:za}{α:Type}
structure oR (f:α→qa)(sz:Nat):Prop where
 len:∀x,(f x).flat.length=sz
 sc:∀x,(f x).flat.all zd=Ev
 ag:∀x,f x=.agg (f x).flat
 ref:∀x,(f x).flat.any Nw=Ev
 big:1<sz
variable {f:α→qa}{sz:Nat}
theorem ji6 (E:oR f sz)(l:List α):(yw f l).all zd=Ev:=by
 induction l with
 |nil=>rfl
 |cons x l ih=>rw[wo,List.all_append,E.sc,ih];rfl
theorem q7l (E:oR f sz):∀(l:List α),l6 sz l.length (yw f l)=l.map f
 | []=>rfl
 |x::l=>by
  have hb:Gc sz 1=Eh:=by
   have:=E.big
   cases h:Gc sz 1 with
   |false=>rfl
   |true=>have:=Nat.eq_of_beq_eq_true h;omega
  have hl:=E.len x
  show(bif Gc sz 1 then(yw f (x::l)).headD .undef else .agg ((yw f (x::l)).take sz))::l6 sz l.length ((yw f (x::l)).drop sz)=_
  rw[hb,cond_false,wo,List.take_append_of_le_length (by omega),List.drop_append_of_le_length (by omega),Ge (by omega),Gf (by omega),Gi,q7l E l,←E.ag]
  rfl
theorem vB (E:oR f sz){l}(hl:0<l.length){cs}(hc:cs.map (·.1)=yw f l):Po (I cs) 0 l.length=I (.list Eh sz (l.map f)):=by
 have dr:cs.length=l.length*sz:=by rw[←Gh (f:=(·.1)),hc,HS E.len]
 have hdiv:cs.length / l.length=sz:=by rw[dr];exact Nat.mul_div_cancel_left _ hl
 have XH:cs.any (fun c=>Nw c.1)=Ev:=by
  cases l with
  |nil=>cases hl
  |cons x l=>
   have:(cs.map (·.1)).any Nw=Ev:=by rw[hc,wo,List.any_append,E.ref];rfl
   rw[List.any_map]at this
   exact this
 have hr:Eb 0 l.length cs=Ev:=by
  have hb:Nat.blt 1 sz=Ev:=Gk.mpr E.big
  rw[Eb,hdiv,hb,XH,dr,Ga,Ga];rfl
 unfold Po
 simp only[hr,cT,hdiv]
 rw[hc,q7l E]
theorem BN {r n XI zero}(hz:zero.length=sz)(hs:zero.all zd=Ev)(h1:0<sz)(hn:n≤1073741824)(hb:XI≤4096){h'}(hh:aF h0 h r (.cells (cellsOf (En n zero).flatten))=I h'):
  vA h0 r sz XI zero h (I (Iv (n:Int))) (I (Iv (n:Int)))=I ⟨.ms (h0+r) 0 n,Eh,Ep,h'⟩:=by
 show(bif Gc n n&&Nat.ble n 1073741824&&Nat.ble XI 4096&&Gc zero.length sz&&Nat.blt 0 sz&&zero.all zd then _ else _)=_
 rw[Ga,Gb hn,Gb hb,hz,Ga,Gk.mpr h1,hs]
 simp only[Gl,cT,hh]
 rfl
theorem BO (E:oR f sz){b l cs}(hb:h[b]?=I (.cells cs))(hc:cs.length=(l.getD []).length*sz)(di:yv h0 al b=Ev):
  wH h0 al sz h (I (.ms b 0 (l.getD []).length)) (I (sl sz f l))=I ⟨Lv l,Eh,Ep,h.set b (.cells (bA f (l.getD [])))⟩:=by
 have lg:ym h b=I cs:=by rw[q60,hb];rfl
 have bh:=(Eo.1 hb).1
 have cx:zY sz (l.getD []).length (sl sz f l)=I ((l.getD []).length,yw f (l.getD [])):=by
  cases l with
  |none=>simp[sl,zY,yw]
  |some l=>
   show(bif Gc sz sz||(l.map f).isEmpty then I (min (l.map f).length l.length,((l.map f).take l.length).flatMap qa.flat)else Ep)=_
   rw[Ga,Gh,Nat.min_self,Ge (by rw[Gh];exact Nat.le_refl _)]
   rfl
 have vV:(yw f (l.getD [])).length=(l.getD []).length*sz:=HS E.len _
 have bO:yj cs 0 (yw f (l.getD []))=I (bA f (l.getD [])):=by
  unfold yj
  rw[ji6 E,vV,hc,Gb (by omega)]
  simp only[Gl,cT,List.take_zero,Gi]
  rw[Gf (by rw[hc];omega),List.append_nil]
  rfl
 have bn:yh h b (.cells (bA f (l.getD [])))=I (h.set b (.cells (bA f (l.getD [])))):=by
  simp only[yh,Gk.mpr bh,cT]
 show(bif yv h0 al b then(match ym h b with
   |some cs=>(match zY sz (l.getD []).length (sl sz f l)with
    |some (n,vs)=>(match yj cs 0 vs with
     |some dV=>bif Gc vs.length (n*sz)then(match yh h b (.cells dV)with
      |some h'=>val h' (Iv n)
      |none=>Ep)else Ep
     |none=>Ep)
    |none=>Ep)
   |none=>Ep)else Ep)=_
 rw[di,lg,cx]
 simp only[cT,bO,vV,Ga,bn]
 rfl
theorem vC {b n i k}(hi:i<n):jS sz h (I (.ms b 0 n)) (I (.int k (i:Int)))=I ⟨.ptr b (i*sz),Eh,Ep,h⟩:=by
 have:idx n (.int k (i:Int))=I i:=by rw[xW];exact VO hi
 simp only[jS,this,Nat.zero_add]
 rfl
end
end Go.Z
set_option maxHeartbeats 4000000
namespace Go.Z
open Go Go.Abs Go.W
theorem fS:oR zw 5:=⟨fun _=>rfl,fun _=>rfl,fun _=>rfl,fun _=>rfl,by omega⟩
theorem oS:oR aV 2:=⟨fun _=>rfl,fun _=>rfl,fun _=>rfl,fun _=>rfl,by omega⟩
theorem rQ:oR zx 3:=⟨fun _=>rfl,fun _=>rfl,fun _=>rfl,fun _=>rfl,by omega⟩
theorem cj:oR zm 4:=⟨fun _=>rfl,fun _=>by simp only[go_sem,seval,ja2]<;>simp only[List.all,go_sem],fun _=>rfl,fun _=>rfl,by omega⟩
theorem dJ:oR aQ 8:=⟨fun _=>rfl,fun _=>by simp only[go_sem,seval,jiw]<;>simp only[List.all,go_sem],fun _=>rfl,fun _=>rfl,by omega⟩
theorem zdo {j caps l i cs}(hlen:(l.getD []).length≤1073741824)(hi:i<(l.getD []).length)(dr:ze pr (X pr) j (.ptr 0 (i*4)::caps) [.cells (bA zm (l.getD []))]=I (.ay [],Eh,[.cells cs])):ze pr (X pr) 178 [sl 4 zm l,Iv (i:Int),.fn (.func j) [] caps] []=I (.ms 0 0 ((l.getD []).length),Eh,[.cells cs]):=by
 rw[zf (show pr.bB 178=I rR from rfl) (by simp)]
 have oT:vA 0 0 4 88 [(.str []),(Nl),(Nl),(Nl)] [.hole] (I (Lv l)) (I (Lv l))=I ⟨.ms 0 0 (l.getD []).length,Eh,Ep,[.cells (cellsOf (En (l.getD []).length [(.str []),(Nl),(Nl),(Nl)]).flatten)]⟩:=by apply BN<;>first|exact hlen|rfl|decide
 have oU:wH 1 Ep 4 [.cells (cellsOf (En (l.getD []).length [(.str []),(Nl),(Nl),(Nl)]).flatten)] (I (.ms 0 0 (l.getD []).length)) (I (sl 4 zm l))=I ⟨Lv l,Eh,Ep,[.cells (bA zm (l.getD []))]⟩:=BO cj rfl (by simp[cellsOf]) rfl
 simp only[go_sem,seval,rR,oT,oU,vC hi,dr]<;>rfl
theorem j4p{y:qq} {j:Nat} {caps:List qa} {l:Option (List qq)} {i:Nat} {cs:List (qa×Bool)} (hlen:(l.getD []).length≤1073741824) (hi:i<(l.getD []).length) (dr:ze pr (X pr) j (.ptr 0 (i*4)::caps) [.cells (bA zm (l.getD []))]=I (.ay [],Eh,[.cells cs])) (hcs:cs.map (·.1)=yw zm ((l.getD []).set i y)):jy pr (X pr) 178 [sl 4 zm l,Iv (i:Int),.fn (.func j) [] caps]=I (sl 4 zm (I ((l.getD []).set i y)),Eh):=by
 have hl:((l.getD []).set i y).length=(l.getD []).length:=Eu
 have hz:az [.cells cs] (.ms 0 0 ((l.getD []).length))=I (sl 4 zm (I ((l.getD []).set i y))):=by
  rw[Fm,←hl]
  exact vB cj (by rw[hl];omega) hcs
 exact kr rfl (zdo hlen hi dr) hz (by first|rfl|simp only[go_sem,seval])
theorem zgi {j caps l i cs}(hlen:(l.getD []).length≤1073741824)(hi:i<(l.getD []).length)(dr:ze pr (X pr) j (.ptr 0 (i*5)::caps) [.cells (bA zw (l.getD []))]=I (.ay [],Eh,[.cells cs])):ze pr (X pr) 185 [sl 5 zw l,Iv (i:Int),.fn (.func j) [] caps] []=I (.ms 0 0 ((l.getD []).length),Eh,[.cells cs]):=by
 rw[zf (show pr.bB 185=I rS from rfl) (by simp)]
 have oT:vA 0 0 5 56 [(.str []),(.str []),(Iv 0),(Iv 0),(.bool Eh)] [.hole] (I (Lv l)) (I (Lv l))=I ⟨.ms 0 0 (l.getD []).length,Eh,Ep,[.cells (cellsOf (En (l.getD []).length [(.str []),(.str []),(Iv 0),(Iv 0),(.bool Eh)]).flatten)]⟩:=by apply BN<;>first|exact hlen|rfl|decide
 have oU:wH 1 Ep 5 [.cells (cellsOf (En (l.getD []).length [(.str []),(.str []),(Iv 0),(Iv 0),(.bool Eh)]).flatten)] (I (.ms 0 0 (l.getD []).length)) (I (sl 5 zw l))=I ⟨Lv l,Eh,Ep,[.cells (bA zw (l.getD []))]⟩:=BO fS rfl (by simp[cellsOf]) rfl
 simp only[go_sem,seval,rS,oT,oU,vC hi,dr]<;>rfl
theorem j4i{y:qm} {j:Nat} {caps:List qa} {l:Option (List qm)} {i:Nat} {cs:List (qa×Bool)} (hlen:(l.getD []).length≤1073741824) (hi:i<(l.getD []).length) (dr:ze pr (X pr) j (.ptr 0 (i*5)::caps) [.cells (bA zw (l.getD []))]=I (.ay [],Eh,[.cells cs])) (hcs:cs.map (·.1)=yw zw ((l.getD []).set i y)):jy pr (X pr) 185 [sl 5 zw l,Iv (i:Int),.fn (.func j) [] caps]=I (sl 5 zw (I ((l.getD []).set i y)),Eh):=by
 have hl:((l.getD []).set i y).length=(l.getD []).length:=Eu
 have hz:az [.cells cs] (.ms 0 0 ((l.getD []).length))=I (sl 5 zw (I ((l.getD []).set i y))):=by
  rw[Fm,←hl]
  exact vB fS (by rw[hl];omega) hcs
 exact kr rfl (zgi hlen hi dr) hz (by first|rfl|simp only[go_sem,seval])
theorem zf4 {j caps l i cs}(hlen:(l.getD []).length≤1073741824)(hi:i<(l.getD []).length)(dr:ze pr (X pr) j (.ptr 0 (i*8)::caps) [.cells (bA aQ (l.getD []))]=I (.ay [],Eh,[.cells cs])):ze pr (X pr) 189 [sl 8 aQ l,Iv (i:Int),.fn (.func j) [] caps] []=I (.ms 0 0 ((l.getD []).length),Eh,[.cells cs]):=by
 rw[zf (show pr.bB 189=I nq from rfl) (by simp)]
 have oT:vA 0 0 8 120 [(.str []),(.str []),(Iv 0),(Nl),(Nl),(.str []),(.bool Eh),(Iv 0)] [.hole] (I (Lv l)) (I (Lv l))=I ⟨.ms 0 0 (l.getD []).length,Eh,Ep,[.cells (cellsOf (En (l.getD []).length [(.str []),(.str []),(Iv 0),(Nl),(Nl),(.str []),(.bool Eh),(Iv 0)]).flatten)]⟩:=by apply BN<;>first|exact hlen|rfl|decide
 have oU:wH 1 Ep 8 [.cells (cellsOf (En (l.getD []).length [(.str []),(.str []),(Iv 0),(Nl),(Nl),(.str []),(.bool Eh),(Iv 0)]).flatten)] (I (.ms 0 0 (l.getD []).length)) (I (sl 8 aQ l))=I ⟨Lv l,Eh,Ep,[.cells (bA aQ (l.getD []))]⟩:=BO dJ rfl (by simp[cellsOf]) rfl
 simp only[go_sem,seval,nq,oT,oU,vC hi,dr]<;>rfl
theorem j0z{y:qf} {j:Nat} {caps:List qa} {l:Option (List qf)} {i:Nat} {cs:List (qa×Bool)} (hlen:(l.getD []).length≤1073741824) (hi:i<(l.getD []).length) (dr:ze pr (X pr) j (.ptr 0 (i*8)::caps) [.cells (bA aQ (l.getD []))]=I (.ay [],Eh,[.cells cs])) (hcs:cs.map (·.1)=yw aQ ((l.getD []).set i y)):jy pr (X pr) 189 [sl 8 aQ l,Iv (i:Int),.fn (.func j) [] caps]=I (sl 8 aQ (I ((l.getD []).set i y)),Eh):=by
 have hl:((l.getD []).set i y).length=(l.getD []).length:=Eu
 have hz:az [.cells cs] (.ms 0 0 ((l.getD []).length))=I (sl 8 aQ (I ((l.getD []).set i y))):=by
  rw[Fm,←hl]
  exact vB dJ (by rw[hl];omega) hcs
 exact kr rfl (zf4 hlen hi dr) hz (by first|rfl|simp only[go_sem,seval])
theorem jlv {b0 b1 b2 b3 b4 j caps l i cs}(hlen:(l.getD []).length≤1073741824)(hi:i<(l.getD []).length)(dr:ze pr (X pr) j (.ptr 5 (i*8)::caps) [b0,b1,b2,b3,b4,.cells (bA aQ (l.getD []))]=I (.ay [],Eh,[b0,b1,b2,b3,b4,.cells cs])):ze pr (X pr) 189 [sl 8 aQ l,Iv (i:Int),.fn (.func j) [] caps] [b0,b1,b2,b3,b4]=I (.ms 5 0 ((l.getD []).length),Eh,[b0,b1,b2,b3,b4,.cells cs]):=by
 rw[zf (show pr.bB 189=I nq from rfl) (by simp)]
 have oT:vA 5 0 8 120 [(.str []),(.str []),(Iv 0),(Nl),(Nl),(.str []),(.bool Eh),(Iv 0)] [b0,b1,b2,b3,b4,.hole] (I (Lv l)) (I (Lv l))=I ⟨.ms 5 0 (l.getD []).length,Eh,Ep,[b0,b1,b2,b3,b4,.cells (cellsOf (En (l.getD []).length [(.str []),(.str []),(Iv 0),(Nl),(Nl),(.str []),(.bool Eh),(Iv 0)]).flatten)]⟩:=by apply BN<;>first|exact hlen|rfl|decide
 have oU:wH 6 Ep 8 [b0,b1,b2,b3,b4,.cells (cellsOf (En (l.getD []).length [(.str []),(.str []),(Iv 0),(Nl),(Nl),(.str []),(.bool Eh),(Iv 0)]).flatten)] (I (.ms 5 0 (l.getD []).length)) (I (sl 8 aQ l))=I ⟨Lv l,Eh,Ep,[b0,b1,b2,b3,b4,.cells (bA aQ (l.getD []))]⟩:=BO dJ rfl (by simp[cellsOf]) rfl
 simp only[go_sem,seval,nq,oT,oU,vC hi,dr]<;>rfl
theorem zbx {j caps l i cs}(hlen:(l.getD []).length≤1073741824)(hi:i<(l.getD []).length)(dr:ze pr (X pr) j (.ptr 0 (i*2)::caps) [.cells (bA aV (l.getD []))]=I (.ay [],Eh,[.cells cs])):ze pr (X pr) 237 [sl 2 aV l,Iv (i:Int),.fn (.func j) [] caps] []=I (.ms 0 0 ((l.getD []).length),Eh,[.cells cs]):=by
 rw[zf (show pr.bB 237=I rT from rfl) (by simp)]
 have oT:vA 0 0 2 24 [(.str []),(Iv 0)] [.hole] (I (Lv l)) (I (Lv l))=I ⟨.ms 0 0 (l.getD []).length,Eh,Ep,[.cells (cellsOf (En (l.getD []).length [(.str []),(Iv 0)]).flatten)]⟩:=by apply BN<;>first|exact hlen|rfl|decide
 have oU:wH 1 Ep 2 [.cells (cellsOf (En (l.getD []).length [(.str []),(Iv 0)]).flatten)] (I (.ms 0 0 (l.getD []).length)) (I (sl 2 aV l))=I ⟨Lv l,Eh,Ep,[.cells (bA aV (l.getD []))]⟩:=BO oS rfl (by simp[cellsOf]) rfl
 simp only[go_sem,seval,rT,oT,oU,vC hi,dr]<;>rfl
theorem jzb{y:qk} {j:Nat} {caps:List qa} {l:Option (List qk)} {i:Nat} {cs:List (qa×Bool)} (hlen:(l.getD []).length≤1073741824) (hi:i<(l.getD []).length) (dr:ze pr (X pr) j (.ptr 0 (i*2)::caps) [.cells (bA aV (l.getD []))]=I (.ay [],Eh,[.cells cs])) (hcs:cs.map (·.1)=yw aV ((l.getD []).set i y)):jy pr (X pr) 237 [sl 2 aV l,Iv (i:Int),.fn (.func j) [] caps]=I (sl 2 aV (I ((l.getD []).set i y)),Eh):=by
 have hl:((l.getD []).set i y).length=(l.getD []).length:=Eu
 have hz:az [.cells cs] (.ms 0 0 ((l.getD []).length))=I (sl 2 aV (I ((l.getD []).set i y))):=by
  rw[Fm,←hl]
  exact vB oS (by rw[hl];omega) hcs
 exact kr rfl (zbx hlen hi dr) hz (by first|rfl|simp only[go_sem,seval])
theorem zbz {j caps l i cs}(hlen:(l.getD []).length≤1073741824)(hi:i<(l.getD []).length)(dr:ze pr (X pr) j (.ptr 0 (i*3)::caps) [.cells (bA zx (l.getD []))]=I (.ay [],Eh,[.cells cs])):ze pr (X pr) 241 [sl 3 zx l,Iv (i:Int),.fn (.func j) [] caps] []=I (.ms 0 0 ((l.getD []).length),Eh,[.cells cs]):=by
 rw[zf (show pr.bB 241=I rU from rfl) (by simp)]
 have oT:vA 0 0 3 32 [(.str []),(Iv 0),(Iv 0)] [.hole] (I (Lv l)) (I (Lv l))=I ⟨.ms 0 0 (l.getD []).length,Eh,Ep,[.cells (cellsOf (En (l.getD []).length [(.str []),(Iv 0),(Iv 0)]).flatten)]⟩:=by apply BN<;>first|exact hlen|rfl|decide
 have oU:wH 1 Ep 3 [.cells (cellsOf (En (l.getD []).length [(.str []),(Iv 0),(Iv 0)]).flatten)] (I (.ms 0 0 (l.getD []).length)) (I (sl 3 zx l))=I ⟨Lv l,Eh,Ep,[.cells (bA zx (l.getD []))]⟩:=BO rQ rfl (by simp[cellsOf]) rfl
 simp only[go_sem,seval,rU,oT,oU,vC hi,dr]<;>rfl
theorem jyf{y:qj} {j:Nat} {caps:List qa} {l:Option (List qj)} {i:Nat} {cs:List (qa×Bool)} (hlen:(l.getD []).length≤1073741824) (hi:i<(l.getD []).length) (dr:ze pr (X pr) j (.ptr 0 (i*3)::caps) [.cells (bA zx (l.getD []))]=I (.ay [],Eh,[.cells cs])) (hcs:cs.map (·.1)=yw zx ((l.getD []).set i y)):jy pr (X pr) 241 [sl 3 zx l,Iv (i:Int),.fn (.func j) [] caps]=I (sl 3 zx (I ((l.getD []).set i y)),Eh):=by
 have hl:((l.getD []).set i y).length=(l.getD []).length:=Eu
 have hz:az [.cells cs] (.ms 0 0 ((l.getD []).length))=I (sl 3 zx (I ((l.getD []).set i y))):=by
  rw[Fm,←hl]
  exact vB rQ (by rw[hl];omega) hcs
 exact kr rfl (zbz hlen hi dr) hz (by first|rfl|simp only[go_sem,seval])
theorem zf6 {j caps l i cs}(hlen:(l.getD []).length≤1073741824)(hi:i<(l.getD []).length)(dr:ze pr (X pr) j (.ptr 0 (i*2)::caps) [.cells (bA aV (l.getD []))]=I (.ay [],Eh,[.cells cs])):ze pr (X pr) 248 [sl 2 aV l,Iv (i:Int),.fn (.func j) [] caps] []=I (.ms 0 0 ((l.getD []).length),Eh,[.cells cs]):=by
 rw[zf (show pr.bB 248=I rV from rfl) (by simp)]
 have oT:vA 0 0 2 24 [(.str []),(Iv 0)] [.hole] (I (Lv l)) (I (Lv l))=I ⟨.ms 0 0 (l.getD []).length,Eh,Ep,[.cells (cellsOf (En (l.getD []).length [(.str []),(Iv 0)]).flatten)]⟩:=by apply BN<;>first|exact hlen|rfl|decide
 have oU:wH 1 Ep 2 [.cells (cellsOf (En (l.getD []).length [(.str []),(Iv 0)]).flatten)] (I (.ms 0 0 (l.getD []).length)) (I (sl 2 aV l))=I ⟨Lv l,Eh,Ep,[.cells (bA aV (l.getD []))]⟩:=BO oS rfl (by simp[cellsOf]) rfl
 simp only[go_sem,seval,rV,oT,oU,vC hi,dr]<;>rfl
theorem j36{y:qk} {j:Nat} {caps:List qa} {l:Option (List qk)} {i:Nat} {cs:List (qa×Bool)} (hlen:(l.getD []).length≤1073741824) (hi:i<(l.getD []).length) (dr:ze pr (X pr) j (.ptr 0 (i*2)::caps) [.cells (bA aV (l.getD []))]=I (.ay [],Eh,[.cells cs])) (hcs:cs.map (·.1)=yw aV ((l.getD []).set i y)):jy pr (X pr) 248 [sl 2 aV l,Iv (i:Int),.fn (.func j) [] caps]=I (sl 2 aV (I ((l.getD []).set i y)),Eh):=by
 have hl:((l.getD []).set i y).length=(l.getD []).length:=Eu
 have hz:az [.cells cs] (.ms 0 0 ((l.getD []).length))=I (sl 2 aV (I ((l.getD []).set i y))):=by
  rw[Fm,←hl]
  exact vB oS (by rw[hl];omega) hcs
 exact kr rfl (zf6 hlen hi dr) hz (by first|rfl|simp only[go_sem,seval])
end Go.Z
namespace Go.Z
open Go Go.Abs Go.W
def fQ {α:Type}(l:Option (List α))(i:Int)(g:α→Option α):Option (Option (List α)):=
 if(l.getD []).length≤1073741824∧0≤i then(match(l.getD [])[i.toNat]? with
  |some x=>(match g x with
   |some y=>I (I ((l.getD []).set i.toNat y))
   |none=>Ep)
  |none=>Ep)else Ep
theorem yW {α:Type}{l i g r}(h:fQ l i g=I r):∃(n:Nat) (x y:α),i=(n:Int)∧(l.getD []).length≤1073741824∧(l.getD [])[n]?=I x∧g x=I y∧r=I ((l.getD []).set n y):=by
 unfold fQ at h
 split at h
 ·rename_i hc
  split at h
  ·rename_i x hx
   split at h
   ·rename_i y hy
    cases h
    exact⟨i.toNat,x,y,(Int.toNat_of_nonneg hc.2).symm,hc.1,hx,hy,rfl⟩
   ·cases h
  ·cases h
 ·cases h
theorem XJ {l r i g j caps}(dr:∀(n:Nat) (x y:qq),(l.getD [])[n]?=I x→g x=I y→∃cs,ze pr (X pr) j (.ptr 0 (n*4)::caps) [.cells (bA zm (l.getD []))]=I (.ay [],Eh,[.cells cs])∧cs.map (·.1)=yw zm ((l.getD []).set n y))(h:fQ l i g=I r):jy pr (X pr) 178 [sl 4 zm l,Iv i,.fn (.func j) [] caps]=I (sl 4 zm r,Eh):=by
 obtain⟨n,x,y,rfl,hl,hx,hy,rfl⟩:=yW h
 obtain⟨cs,h1,h2⟩:=dr n x y hx hy
 exact j4p hl (Eo.1 hx).1 h1 h2
theorem XK {l r i g j caps}(dr:∀(n:Nat) (x y:qm),(l.getD [])[n]?=I x→g x=I y→∃cs,ze pr (X pr) j (.ptr 0 (n*5)::caps) [.cells (bA zw (l.getD []))]=I (.ay [],Eh,[.cells cs])∧cs.map (·.1)=yw zw ((l.getD []).set n y))(h:fQ l i g=I r):jy pr (X pr) 185 [sl 5 zw l,Iv i,.fn (.func j) [] caps]=I (sl 5 zw r,Eh):=by
 obtain⟨n,x,y,rfl,hl,hx,hy,rfl⟩:=yW h
 obtain⟨cs,h1,h2⟩:=dr n x y hx hy
 exact j4i hl (Eo.1 hx).1 h1 h2
theorem Fp {l r i g j caps}(dr:∀(n:Nat) (x y:qf),(l.getD [])[n]?=I x→g x=I y→∃cs,ze pr (X pr) j (.ptr 0 (n*8)::caps) [.cells (bA aQ (l.getD []))]=I (.ay [],Eh,[.cells cs])∧cs.map (·.1)=yw aQ ((l.getD []).set n y))(h:fQ l i g=I r):jy pr (X pr) 189 [sl 8 aQ l,Iv i,.fn (.func j) [] caps]=I (sl 8 aQ r,Eh):=by
 obtain⟨n,x,y,rfl,hl,hx,hy,rfl⟩:=yW h
 obtain⟨cs,h1,h2⟩:=dr n x y hx hy
 exact j0z hl (Eo.1 hx).1 h1 h2
theorem jy2 {l r i g j caps}(dr:∀(n:Nat) (x y:qk),(l.getD [])[n]?=I x→g x=I y→∃cs,ze pr (X pr) j (.ptr 0 (n*2)::caps) [.cells (bA aV (l.getD []))]=I (.ay [],Eh,[.cells cs])∧cs.map (·.1)=yw aV ((l.getD []).set n y))(h:fQ l i g=I r):jy pr (X pr) 237 [sl 2 aV l,Iv i,.fn (.func j) [] caps]=I (sl 2 aV r,Eh):=by
 obtain⟨n,x,y,rfl,hl,hx,hy,rfl⟩:=yW h
 obtain⟨cs,h1,h2⟩:=dr n x y hx hy
 exact jzb hl (Eo.1 hx).1 h1 h2
theorem j3s {l r i g j caps}(dr:∀(n:Nat) (x y:qj),(l.getD [])[n]?=I x→g x=I y→∃cs,ze pr (X pr) j (.ptr 0 (n*3)::caps) [.cells (bA zx (l.getD []))]=I (.ay [],Eh,[.cells cs])∧cs.map (·.1)=yw zx ((l.getD []).set n y))(h:fQ l i g=I r):jy pr (X pr) 241 [sl 3 zx l,Iv i,.fn (.func j) [] caps]=I (sl 3 zx r,Eh):=by
 obtain⟨n,x,y,rfl,hl,hx,hy,rfl⟩:=yW h
 obtain⟨cs,h1,h2⟩:=dr n x y hx hy
 exact jyf hl (Eo.1 hx).1 h1 h2
theorem jzd {l r i g j caps}(dr:∀(n:Nat) (x y:qk),(l.getD [])[n]?=I x→g x=I y→∃cs,ze pr (X pr) j (.ptr 0 (n*2)::caps) [.cells (bA aV (l.getD []))]=I (.ay [],Eh,[.cells cs])∧cs.map (·.1)=yw aV ((l.getD []).set n y))(h:fQ l i g=I r):jy pr (X pr) 248 [sl 2 aV l,Iv i,.fn (.func j) [] caps]=I (sl 2 aV r,Eh):=by
 obtain⟨n,x,y,rfl,hl,hx,hy,rfl⟩:=yW h
 obtain⟨cs,h1,h2⟩:=dr n x y hx hy
 exact j36 hl (Eo.1 hx).1 h1 h2
theorem zec {l i x}(hx:l[i]?=I x):ze pr (X pr) 198 [.ptr 0 (i*5)] [.cells (bA zw l)]=I (.ay [],Eh,[.cells (bA zw (l.set i { x with held:=Ev }))]):=by
 rw[zf (show pr.bB 198=I rW from rfl) (by simp)]
 have st:yj (bA zw l) (i*5+4) [.bool Ev]=I (bA zw (l.set i { x with held:=Ev })):=mc (o:=4) fS.len hx (Ek rfl) rfl rfl
 simp only[go_sem,seval,rW,st]<;>rfl
def WR (l:Option (List qm))(i:Int):Option (Option (List qm)):=fQ l i fun x=>I { x with held:=Ev }
theorem jjz {l i r}(h:WR l i=I r):jy pr (X pr) 185 [sl 5 zw l,Iv i,.fn (.func 198) [] []]=I (sl 5 zw r,Eh):=
 XK (fun n x y hx hy=>by cases hy;exact⟨_,zec hx,k9⟩) h
theorem zfq {l i x}(hx:l[i]?=I x):ze pr (X pr) 199 [.ptr 0 (i*5)] [.cells (bA zw l)]=I (.ay [],Eh,[.cells (bA zw (l.set i { x with held:=Eh }))]):=by
 rw[zf (show pr.bB 199=I rX from rfl) (by simp)]
 have st:yj (bA zw l) (i*5+4) [.bool Eh]=I (bA zw (l.set i { x with held:=Eh })):=mc (o:=4) fS.len hx (Ek rfl) rfl rfl
 simp only[go_sem,seval,rX,st]<;>rfl
def WS (l:Option (List qm))(i:Int):Option (Option (List qm)):=fQ l i fun x=>I { x with held:=Eh }
theorem jjb {l i r}(h:WS l i=I r):jy pr (X pr) 185 [sl 5 zw l,Iv i,.fn (.func 199) [] []]=I (sl 5 zw r,Eh):=
 XK (fun n x y hx hy=>by cases hy;exact⟨_,zfq hx,k9⟩) h
theorem zfm {l i x}(hx:l[i]?=I x):ze pr (X pr) 200 [.ptr 0 (i*8)] [.cells (bA aQ l)]=I (.ay [],Eh,[.cells (bA aQ (l.set i { x with aq:=Ev }))]):=by
 rw[zf (show pr.bB 200=I rZ from rfl) (by simp)]
 have st:yj (bA aQ l) (i*8+6) [.bool Ev]=I (bA aQ (l.set i { x with aq:=Ev })):=mc (o:=6) dJ.len hx (Ek rfl) rfl rfl
 simp only[go_sem,seval,rZ,st]<;>rfl
def WU (l:Option (List qf))(i:Int):Option (Option (List qf)):=fQ l i fun x=>I { x with aq:=Ev }
theorem je3 {l i r}(h:WU l i=I r):jy pr (X pr) 189 [sl 8 aQ l,Iv i,.fn (.func 200) [] []]=I (sl 8 aQ r,Eh):=
 Fp (fun n x y hx hy=>by cases hy;exact⟨_,zfm hx,k9⟩) h
theorem zcx {l i x}(hx:l[i]?=I x):ze pr (X pr) 201 [.ptr 0 (i*8)] [.cells (bA aQ l)]=I (.ay [],Eh,[.cells (bA aQ (l.set i { x with aj:=j6 .i64 (x.aj+1) }))]):=by
 rw[zf (show pr.bB 201=I sd from rfl) (by simp)]
 have st:yj (bA aQ l) (i*8+7) [Iv (j6 .i64 (x.aj+1))]=I (bA aQ (l.set i { x with aj:=j6 .i64 (x.aj+1) })):=mc (o:=7) dJ.len hx (Ek rfl) rfl rfl
 have XL:kf (bA aQ l) (i*8+7) 1=I [Iv x.aj]:=vg (o:=7) dJ.len hx (by decide)
 simp only[go_sem,seval,sd,st,XL]<;>rfl
def WV (l:Option (List qf))(i:Int):Option (Option (List qf)):=fQ l i fun x=>I { x with aj:=j6 .i64 (x.aj+1) }
theorem jgq {l i r}(h:WV l i=I r):jy pr (X pr) 189 [sl 8 aQ l,Iv i,.fn (.func 201) [] []]=I (sl 8 aQ r,Eh):=
 Fp (fun n x y hx hy=>by cases hy;exact⟨_,zcx hx,k9⟩) h
theorem zcu {l i x v}(hx:l[i]?=I x):ze pr (X pr) 195 [.ptr 0 (i*8),.ah (Iv v)] [.cells (bA aQ l)]=I (.ay [],Eh,[.cells (bA aQ (l.set i { x with version:=v }))]):=by
 rw[zf (show pr.bB 195=I sg from rfl) (by simp)]
 have st:yj (bA aQ l) (i*8+2) [Iv v]=I (bA aQ (l.set i { x with version:=v })):=mc (o:=2) dJ.len hx (Ek rfl) rfl rfl
 simp only[go_sem,seval,sg,st]<;>rfl
def WT (l:Option (List qf))(i:Int)(v:Int):Option (Option (List qf)):=fQ l i fun x=>I { x with version:=v }
theorem jki {l i v r}(h:WT l i v=I r):jy pr (X pr) 189 [sl 8 aQ l,Iv i,.fn (.func 195) [] [.ah (Iv v)]]=I (sl 8 aQ r,Eh):=
 Fp (fun n x y hx hy=>by cases hy;exact⟨_,zcu hx,k9⟩) h
theorem zkb {l i x b}(hx:l[i]?=I x):ze pr (X pr) 196 [.ptr 0 (i*8),.ah (aQ b)] [.cells (bA aQ l)]=I (.ay [],Eh,[.cells (bA aQ (l.set i { x with partner:=b.name }))]):=by
 rw[zf (show pr.bB 196=I si from rfl) (by simp)]
 have st:yj (bA aQ l) (i*8+5) [.str b.name]=I (bA aQ (l.set i { x with partner:=b.name })):=mc (o:=5) dJ.len hx (Ek rfl) rfl rfl
 simp only[go_sem,seval,si,st,aQ]<;>rfl
def vp (l:Option (List qf))(i:Int)(b:qf):Option (Option (List qf)):=fQ l i fun x=>I { x with partner:=b.name }
theorem jkw {l i b r}(h:vp l i b=I r):jy pr (X pr) 189 [sl 8 aQ l,Iv i,.fn (.func 196) [] [.ah (aQ b)]]=I (sl 8 aQ r,Eh):=
 Fp (fun n x y hx hy=>by cases hy;exact⟨_,zkb hx,k9⟩) h
theorem zg4 {l i x b}(hx:l[i]?=I x):ze pr (X pr) 197 [.ptr 0 (i*8),.ah (aQ b)] [.cells (bA aQ l)]=I (.ay [],Eh,[.cells (bA aQ (l.set i { x with partner:=b.name }))]):=by
 rw[zf (show pr.bB 197=I sj from rfl) (by simp)]
 have st:yj (bA aQ l) (i*8+5) [.str b.name]=I (bA aQ (l.set i { x with partner:=b.name })):=mc (o:=5) dJ.len hx (Ek rfl) rfl rfl
 simp only[go_sem,seval,sj,st,aQ]<;>rfl
def vq (l:Option (List qf))(i:Int)(b:qf):Option (Option (List qf)):=fQ l i fun x=>I { x with partner:=b.name }
theorem ji2 {l i b r}(h:vq l i b=I r):jy pr (X pr) 189 [sl 8 aQ l,Iv i,.fn (.func 197) [] [.ah (aQ b)]]=I (sl 8 aQ r,Eh):=
 Fp (fun n x y hx hy=>by cases hy;exact⟨_,zg4 hx,k9⟩) h
theorem zbp {l i x v}(hx:l[i]?=I x):ze pr (X pr) 186 [.ptr 0 (i*5),.ah (Iv v)] [.cells (bA zw l)]=I (.ay [],Eh,[.cells (bA zw (l.set i { x with left:=j6 .i64 (x.left-v) }))]):=by
 rw[zf (show pr.bB 186=I sk from rfl) (by simp)]
 have st:yj (bA zw l) (i*5+3) [Iv (j6 .i64 (x.left-v))]=I (bA zw (l.set i { x with left:=j6 .i64 (x.left-v) })):=mc (o:=3) fS.len hx (Ek rfl) rfl rfl
 have XL:kf (bA zw l) (i*5+3) 1=I [Iv x.left]:=vg (o:=3) fS.len hx (by decide)
 simp only[go_sem,seval,sk,st,XL]<;>rfl
def WX (l:Option (List qm))(i:Int)(v:Int):Option (Option (List qm)):=fQ l i fun x=>I { x with left:=j6 .i64 (x.left-v) }
theorem jfd {l i v r}(h:WX l i v=I r):jy pr (X pr) 185 [sl 5 zw l,Iv i,.fn (.func 186) [] [.ah (Iv v)]]=I (sl 5 zw r,Eh):=
 XK (fun n x y hx hy=>by cases hy;exact⟨_,zbp hx,k9⟩) h
theorem zc0 {l i x b}(hx:l[i]?=I x):ze pr (X pr) 238 [.ptr 0 (i*2),.ah (aV b)] [.cells (bA aV l)]=I (.ay [],Eh,[.cells (bA aV (l.set i b))]):=by
 rw[zf (show pr.bB 238=I sn from rfl) (by simp)]
 have st:yj (bA aV l) (i*2) [.str b.k,Iv b.n]=I (bA aV (l.set i b)):=mc (o:=0) oS.len hx (Ek rfl) rfl rfl
 simp only[go_sem,seval,sn,st,aV]<;>rfl
def jvz (l:Option (List qk))(i:Int)(b:qk):Option (Option (List qk)):=fQ l i fun x=>I b
theorem jft {l i b r}(h:jvz l i b=I r):jy pr (X pr) 237 [sl 2 aV l,Iv i,.fn (.func 238) [] [.ah (aV b)]]=I (sl 2 aV r,Eh):=
 jy2 (fun n x y hx hy=>by cases hy;exact⟨_,zc0 hx,k9⟩) h
theorem zgb {l i x b}(hx:l[i]?=I x):ze pr (X pr) 242 [.ptr 0 (i*3),.ah (zx b)] [.cells (bA zx l)]=I (.ay [],Eh,[.cells (bA zx (l.set i b))]):=by
 rw[zf (show pr.bB 242=I su from rfl) (by simp)]
 have st:yj (bA zx l) (i*3) [.str b.k,Iv b.a,Iv b.b]=I (bA zx (l.set i b)):=mc (o:=0) rQ.len hx (Ek rfl) rfl rfl
 simp only[go_sem,seval,su,st,zx]<;>rfl
def jsg (l:Option (List qj))(i:Int)(b:qj):Option (Option (List qj)):=fQ l i fun x=>I b
theorem jkf {l i b r}(h:jsg l i b=I r):jy pr (X pr) 241 [sl 3 zx l,Iv i,.fn (.func 242) [] [.ah (zx b)]]=I (sl 3 zx r,Eh):=
 j3s (fun n x y hx hy=>by cases hy;exact⟨_,zgb hx,k9⟩) h
theorem zfn {l i x b}(hx:l[i]?=I x):ze pr (X pr) 249 [.ptr 0 (i*2),.ah (aV b)] [.cells (bA aV l)]=I (.ay [],Eh,[.cells (bA aV (l.set i b))]):=by
 rw[zf (show pr.bB 249=I sw from rfl) (by simp)]
 have st:yj (bA aV l) (i*2) [.str b.k,Iv b.n]=I (bA aV (l.set i b)):=mc (o:=0) oS.len hx (Ek rfl) rfl rfl
 simp only[go_sem,seval,sw,st,aV]<;>rfl
def jui (l:Option (List qk))(i:Int)(b:qk):Option (Option (List qk)):=fQ l i fun x=>I b
theorem jic {l i b r}(h:jui l i b=I r):jy pr (X pr) 248 [sl 2 aV l,Iv i,.fn (.func 249) [] [.ah (aV b)]]=I (sl 2 aV r,Eh):=
 jzd (fun n x y hx hy=>by cases hy;exact⟨_,zfn hx,k9⟩) h
end Go.Z
namespace Go.Z
open Go Go.Abs Go.W
def f167 (a0:qk)(a1:List UInt8):Option Bool:=
 I (decide (a0.k=a1))
theorem XM (hp:za){a0 a1 r}(h:f167 a0 a1=I r):ze pr (X pr) 167 [aN a0,.ah (.str a1)] hp=I (.bool r,Eh,hp):=by
 unfold f167 at h
 have hr:decide (a0.k=a1)=r:=I.inj h
 subst hr
 rw[zf (show pr.bB 167=I sx from rfl) (by simp)]
 simp only[go_sem,seval,sx]<;>rfl
def Pv (a0:Option (List qk))(ai:List UInt8)(s0:Int):Option (Int⊕(Int⊕Int)):=
 cond (decide (s0<((a0.getD []).length:Int)))
  (jw (zn (a0.getD []) s0) fun dB=>
  jw (f167 dB ai) fun da=>
  cond da
   (I (.inr (.inl s0)))
   (I (.inl (j6 .i64 (s0+1)))))
  (I (.inr (.inr s0)))
def Ji (a0:Option (List qk))(ai:List UInt8)(hp:za)(s0:Int):qg:=⟨[(0,sl 2 aV a0,Eh),(1,.fn (.func 167) [] [.ah (.str ai)],Eh),(7,Lv a0,Eh),(8,Iv s0,Eh)],hp⟩
def Jj (a0:Option (List qk))(ai:List UInt8)(hp:za):Int⊕Int→qi×qg
 | .inl d=>(.ret,⟨[(4,Iv d,Eh)],hp⟩)
 | .inr d=>(.exit 0,⟨[(0,sl 2 aV a0,Eh),(1,.fn (.func 167) [] [.ah (.str ai)],Eh),(7,Lv a0,Eh),(8,Iv d,Eh),(9,.bool Eh,Eh)],hp⟩)
theorem jnd (a0:Option (List qk))(ai:List UInt8)(hp:za)(s0:Int)(r)(h:Pv a0 ai s0=I r):yr pr lT (Ji a0 ai hp) (Jj a0 ai hp) s0 r:=by
 unfold Pv at h
 repeat' first|(replace h:=jx h;obtain⟨d,g,h⟩:=h;with_reducible first|replace g:=XM hp g|skip)|(replace h:=jz h;rcases h with⟨g,h⟩|⟨g,h⟩)|fail
 all_goals (cases h<;>(first|(refine zu ?_;simp only[go_sem,seval,lT,Ji,zj,Jj, *]<;>rfl)|(refine yl ?_;simp only[go_sem,seval,lT,Ji,zj,Jj, *]<;>rfl)))
theorem jm9 (a0:Option (List qk))(ai:List UInt8)(hp:za){s0 d}(h:aY (Pv a0 ai) s0=I d):X pr (.loop lT) (Ji a0 ai hp s0)=I (Jj a0 ai hp d):=y8 (jnd a0 ai hp) (fun d=>by rcases d with d|d<;>(intro hh;cases hh)) h
def Io (a0:Option (List qk))(ai:List UInt8):Option Int:=
 jw (aY (Pv a0 ai) 0) fun d19=>match d19 with
  | .inl d21=>
   I d21
  | .inr d22=>
   I (-1)
theorem j8i (hp:za){a0 ai r}(h:Io a0 ai=I r):ze pr (X pr) 235 [sl 2 aV a0,.fn (.func 167) [] [.ah (.str ai)]] hp=I (Iv r,Eh,hp):=by
 unfold Io at h
 rw[zf (show pr.bB 235=I iw from rfl) (by simp)]
 repeat' first|(replace h:=jx h;obtain⟨d,g,h⟩:=h;with_reducible first|(replace g:=jm9 a0 ai hp g;rcases d with d|d<;>dsimp only[Ji,Jj,y7]at g h)|skip)|(replace h:=jz h;rcases h with⟨g,h⟩|⟨g,h⟩)|fail
 all_goals (cases h<;>(simp only[go_sem,seval,iw, *]<;>rfl))
def Px (a0:Option (List qk))(ai:List UInt8)(s0:Int):Option (Int⊕(Int⊕Int)):=
 cond (decide (s0<((a0.getD []).length:Int)))
  (jw (zn (a0.getD []) s0) fun dB=>
  jw (f167 dB ai) fun da=>
  cond da
   (I (.inr (.inl s0)))
   (I (.inl (j6 .i64 (s0+1)))))
  (I (.inr (.inr s0)))
def Jk (a0:Option (List qk))(ai:List UInt8)(s0:Int):qg:=⟨[(0,sl 2 aV a0,Eh),(1,.fn (.func 167) [] [.ah (.str ai)],Eh),(7,Lv a0,Eh),(8,Iv s0,Eh)],[]⟩
def Jl (a0:Option (List qk))(ai:List UInt8):Int⊕Int→qi×qg
 | .inl d=>(.ret,⟨[(4,Iv d,Eh)],[]⟩)
 | .inr d=>(.exit 0,⟨[(0,sl 2 aV a0,Eh),(1,.fn (.func 167) [] [.ah (.str ai)],Eh),(7,Lv a0,Eh),(8,Iv d,Eh),(9,.bool Eh,Eh)],[]⟩)
theorem jou (a0:Option (List qk))(ai:List UInt8)(s0:Int)(r)(h:Px a0 ai s0=I r):yr pr lT (Jk a0 ai) (Jl a0 ai) s0 r:=by
 unfold Px at h
 repeat' first|(replace h:=jx h;obtain⟨d,g,h⟩:=h;with_reducible first|replace g:=XM [] g|skip)|(replace h:=jz h;rcases h with⟨g,h⟩|⟨g,h⟩)|fail
 all_goals (cases h<;>(first|(refine zu ?_;simp only[go_sem,seval,lT,Jk,zj,Jl, *]<;>rfl)|(refine yl ?_;simp only[go_sem,seval,lT,Jk,zj,Jl, *]<;>rfl)))
theorem jnx (a0:Option (List qk))(ai:List UInt8){s0 d}(h:aY (Px a0 ai) s0=I d):X pr (.loop lT) (Jk a0 ai s0)=I (Jl a0 ai d):=y8 (jou a0 ai) (fun d=>by rcases d with d|d<;>(intro hh;cases hh)) h
def Ij (a0:Option (List qk))(ai:List UInt8):Option Int:=
 jw (aY (Px a0 ai) 0) fun d19=>match d19 with
  | .inl d21=>
   I d21
  | .inr d22=>
   I (-1)
theorem j6d {a0 ai r}(h:Ij a0 ai=I r):jy pr (X pr) 235 [sl 2 aV a0,.fn (.func 167) [] [.ah (.str ai)]]=I (Iv r,Eh):=by
 unfold Ij at h
 refine yz iw ?_
 repeat' first|(replace h:=jx h;obtain⟨d,g,h⟩:=h;with_reducible first|(replace g:=jnx a0 ai g;rcases d with d|d<;>dsimp only[Jk,Jl,y7]at g h)|skip)|(replace h:=jz h;rcases h with⟨g,h⟩|⟨g,h⟩)|fail
 all_goals (cases h<;>(simp only[go_sem,seval,iw, *];exact⟨_,rfl⟩))
def Il (a0:Option (List qk))(ai:List UInt8):Option Bool:=
 jw (Io a0 ai) fun v1=>
 I (decide (0≤v1))
theorem j0h {a0 ai r}(h:Il a0 ai=I r):jy pr (X pr) 168 [sl 2 aV a0,.fn (.func 167) [] [.ah (.str ai)]]=I (.bool r,Eh):=by
 unfold Il at h
 refine yz kU ?_
 repeat' first|(replace h:=jx h;obtain⟨d,g,h⟩:=h;with_reducible first|replace g:=j8i [] g|skip)|(replace h:=jz h;rcases h with⟨g,h⟩|⟨g,h⟩)|fail
 all_goals (cases h<;>(simp only[go_sem,seval,kU, *];exact⟨_,rfl⟩))
def f184 (a0:qk)(a1:qm):Option Bool:=
 I (decide (a0.k=a1.kind))
theorem zi2 (hp:za){a0 a1 r}(h:f184 a0 a1=I r):ze pr (X pr) 184 [aN a0,.ah (aL a1)] hp=I (.bool r,Eh,hp):=by
 unfold f184 at h
 have hr:decide (a0.k=a1.kind)=r:=I.inj h
 subst hr
 rw[zf (show pr.bB 184=I sA from rfl) (by simp)]
 simp only[go_sem,seval,sA]<;>rfl
def Py (a0:Option (List qk))(ai:qm)(s0:Int):Option (Int⊕(Int⊕Int)):=
 cond (decide (s0<((a0.getD []).length:Int)))
  (jw (zn (a0.getD []) s0) fun dB=>
  jw (f184 dB ai) fun da=>
  cond da
   (I (.inr (.inl s0)))
   (I (.inl (j6 .i64 (s0+1)))))
  (I (.inr (.inr s0)))
def Jm (a0:Option (List qk))(ai:qm)(hp:za)(s0:Int):qg:=⟨[(0,sl 2 aV a0,Eh),(1,.fn (.func 184) [] [.ah (aL ai)],Eh),(7,Lv a0,Eh),(8,Iv s0,Eh)],hp⟩
def Jn (a0:Option (List qk))(ai:qm)(hp:za):Int⊕Int→qi×qg
 | .inl d=>(.ret,⟨[(4,Iv d,Eh)],hp⟩)
 | .inr d=>(.exit 0,⟨[(0,sl 2 aV a0,Eh),(1,.fn (.func 184) [] [.ah (aL ai)],Eh),(7,Lv a0,Eh),(8,Iv d,Eh),(9,.bool Eh,Eh)],hp⟩)
theorem joq (a0:Option (List qk))(ai:qm)(hp:za)(s0:Int)(r)(h:Py a0 ai s0=I r):yr pr lT (Jm a0 ai hp) (Jn a0 ai hp) s0 r:=by
 unfold Py at h
 repeat' first|(replace h:=jx h;obtain⟨d,g,h⟩:=h;with_reducible first|replace g:=zi2 hp g|skip)|(replace h:=jz h;rcases h with⟨g,h⟩|⟨g,h⟩)|fail
 all_goals (cases h<;>(first|(refine zu ?_;simp only[go_sem,seval,lT,Jm,zj,Jn, *]<;>rfl)|(refine yl ?_;simp only[go_sem,seval,lT,Jm,zj,Jn, *]<;>rfl)))
theorem jm7 (a0:Option (List qk))(ai:qm)(hp:za){s0 d}(h:aY (Py a0 ai) s0=I d):X pr (.loop lT) (Jm a0 ai hp s0)=I (Jn a0 ai hp d):=y8 (joq a0 ai hp) (fun d=>by rcases d with d|d<;>(intro hh;cases hh)) h
def Iq (a0:Option (List qk))(ai:qm):Option Int:=
 jw (aY (Py a0 ai) 0) fun d19=>match d19 with
  | .inl d21=>
   I d21
  | .inr d22=>
   I (-1)
theorem j60 (hp:za){a0 ai r}(h:Iq a0 ai=I r):ze pr (X pr) 235 [sl 2 aV a0,.fn (.func 184) [] [.ah (aL ai)]] hp=I (Iv r,Eh,hp):=by
 unfold Iq at h
 rw[zf (show pr.bB 235=I iw from rfl) (by simp)]
 repeat' first|(replace h:=jx h;obtain⟨d,g,h⟩:=h;with_reducible first|(replace g:=jm7 a0 ai hp g;rcases d with d|d<;>dsimp only[Jm,Jn,y7]at g h)|skip)|(replace h:=jz h;rcases h with⟨g,h⟩|⟨g,h⟩)|fail
 all_goals (cases h<;>(simp only[go_sem,seval,iw, *]<;>rfl))
def Ip (a0:Option (List qk))(ai:qm):Option Bool:=
 jw (Iq a0 ai) fun v1=>
 I (decide (0≤v1))
theorem j6v {a0 ai r}(h:Ip a0 ai=I r):jy pr (X pr) 168 [sl 2 aV a0,.fn (.func 184) [] [.ah (aL ai)]]=I (.bool r,Eh):=by
 unfold Ip at h
 refine yz kU ?_
 repeat' first|(replace h:=jx h;obtain⟨d,g,h⟩:=h;with_reducible first|replace g:=j60 [] g|skip)|(replace h:=jz h;rcases h with⟨g,h⟩|⟨g,h⟩)|fail
 all_goals (cases h<;>(simp only[go_sem,seval,kU, *];exact⟨_,rfl⟩))
def f172 (a0:qk)(lU:List UInt8):Option Bool:=
 jw (f167 a0 lU) fun v1=>
 I (!v1)
theorem zfc (hp:za){a0 lU r}(h:f172 a0 lU=I r):ze pr (X pr) 172 [aN a0,.ah (.fn (.func 167) [] [.ah (.str lU)])] hp=I (.bool r,Eh,hp):=by
 unfold f172 at h
 obtain⟨v1,h2,h⟩:=jx h
 have iR:ze pr (X pr) 167 [aN a0,.ah (.str lU)] hp=I (.bool v1,Eh,hp):=XM hp h2
 have hr:(!v1)=r:=I.inj h
 subst hr
 rw[zf (show pr.bB 172=I sB from rfl) (by simp)]
 simp only[go_sem,seval,sB,iR]<;>rfl
def Ik (a0:Option (List qk))(bP:List UInt8)(s0:(Option (List qk))×Int×Bool):Option (((Option (List qk))×Int×Bool)⊕(((Option (List qk))×Bool×Int))):=
 cond (decide (s0.2.1<((a0.getD []).length:Int)))
  (jw (zn (a0.getD []) s0.2.1) fun v20=>
  jw (f172 v20 bP) fun eH=>
  cond eH
   (cond s0.2.2
    (jw (bj s0.1 [v20]) fun eg=>
    I (.inl (eg,j6 .i64 (s0.2.1+1),Ev)))
    (cond s0.1.isNone
     (jw (bj s0.1 [v20]) fun fc=>
     I (.inl (fc,j6 .i64 (s0.2.1+1),Ev)))
     (Ep)))
   (I (.inl (s0.1,j6 .i64 (s0.2.1+1),s0.2.2))))
  (I (.inr (s0.1,s0.2.2,s0.2.1)))
def Jo (a0:Option (List qk))(bP:List UInt8)(hp:za)(s0:(Option (List qk))×Int×Bool):qg:=⟨[(1,.fn (.func 172) [] [.ah (.fn (.func 167) [] [.ah (.str bP)])],Eh),(5,sl 2 aV s0.1,s0.2.2),(8,sl 2 aV a0,Eh),(9,Lv a0,Eh),(10,Iv s0.2.1,Eh)],hp⟩
def Jp (a0:Option (List qk))(bP:List UInt8)(hp:za)(d:((Option (List qk))×Bool×Int)):qi×qg:=(.exit 0,⟨[(1,.fn (.func 172) [] [.ah (.fn (.func 167) [] [.ah (.str bP)])],Eh),(5,sl 2 aV d.1,d.2.1),(8,sl 2 aV a0,Eh),(9,Lv a0,Eh),(10,Iv d.2.2,Eh),(11,.bool Eh,Eh)],hp⟩)
theorem jse (a0:Option (List qk))(bP:List UInt8)(hp:za)(s0:(Option (List qk))×Int×Bool)(r)(h:Ik a0 bP s0=I r):yr pr Jq (Jo a0 bP hp) (Jp a0 bP hp) s0 r:=by
 unfold Ik at h
 repeat' first|(replace h:=jx h;obtain⟨d,g,h⟩:=h;with_reducible first|replace g:=zfc hp g|replace g:=A7 g|skip)|(replace h:=jz h;rcases h with⟨g,h⟩|⟨g,h⟩)|fail
 all_goals (cases h<;>(first|(refine zu ?_;simp only[go_sem,seval,Jq,Jo,zj,Jp, *]<;>rfl)|(refine yl ?_;simp only[go_sem,seval,Jq,Jo,zj,Jp, *]<;>rfl)))
theorem jte (a0:Option (List qk))(bP:List UInt8)(hp:za){s0 d}(h:aY (Ik a0 bP) s0=I d):X pr (.loop Jq) (Jo a0 bP hp s0)=I (Jp a0 bP hp d):=y8 (jse a0 bP hp) (fun d hh=>by cases hh) h
def f171 (a0:Option (List qk))(bP:List UInt8):Option ((Option (List qk))×Bool):=
 jw (aY (Ik a0 bP) (Ep,0,Eh)) fun d31=>
 I (d31.1,d31.2.1)
theorem zfk (hp:za){a0 bP r}(h:f171 a0 bP=I r):ze pr (X pr) 171 [sl 2 aV a0,.fn (.func 172) [] [.ah (.fn (.func 167) [] [.ah (.str bP)])]] hp=I (sl 2 aV r.1,r.2,hp):=by
 unfold f171 at h
 rw[zf (show pr.bB 171=I sC from rfl) (by simp)]
 repeat' first|(replace h:=jx h;obtain⟨d,g,h⟩:=h;with_reducible first|(replace g:=jte a0 bP hp g;dsimp only[Jo,Jp,y7]at g h)|skip)|(replace h:=jz h;rcases h with⟨g,h⟩|⟨g,h⟩)|fail
 all_goals (cases h<;>(simp only[go_sem,seval,sC, *]<;>rfl))
def f173 (a0:Option (List qk))(a1:qk)(dq:List UInt8):Option ((Option (List qk))×Bool):=
 jw (Ij a0 dq) fun v1=>
 cond (decide (0≤v1))
  (jw (jvz a0 v1 a1) fun v4=>
  I (v4,Eh))
  (jw (f239 a0 a1) fun v6=>
  I (v6,Ev))
theorem ziq {a0 a1 dq r}(h:f173 a0 a1 dq=I r):jy pr (X pr) 173 [sl 2 aV a0,aN a1,.fn (.func 167) [] [.ah (.str dq)]]=I (sl 2 aV r.1,r.2):=by
 unfold f173 at h
 refine eh sD ?_
 repeat' first|(replace h:=jx h;obtain⟨d,g,h⟩:=h; (with_reducible first|replace g:=j6d g|replace g:=jft g|replace g:=zgl g|skip);try dsimp only[y7,hH,Gm,kh,zk,zw,zm,aQ,y9,vev,aV,zx,db,aE,aR,aU,aL,aP,aD]at g)|(replace h:=jz h;rcases h with⟨g,h⟩|⟨g,h⟩)|fail
 all_goals (cases h<;>(simp only[go_sem,seval,sD, *];exact⟨_,rfl⟩))
def f174 (a0:qj)(a1:qj):Option Bool:=
 I (decide (a0.k=a1.k))
theorem zfu (hp:za){a0 a1 r}(h:f174 a0 a1=I r):ze pr (X pr) 174 [aT a0,.ah (aT a1)] hp=I (.bool r,Eh,hp):=by
 unfold f174 at h
 have hr:decide (a0.k=a1.k)=r:=I.inj h
 subst hr
 rw[zf (show pr.bB 174=I sE from rfl) (by simp)]
 simp only[go_sem,seval,sE]<;>rfl
def Pz (a0:Option (List qj))(ai:qj)(s0:Int):Option (Int⊕(Int⊕Int)):=
 cond (decide (s0<((a0.getD []).length:Int)))
  (jw (zn (a0.getD []) s0) fun dB=>
  jw (f174 dB ai) fun da=>
  cond da
   (I (.inr (.inl s0)))
   (I (.inl (j6 .i64 (s0+1)))))
  (I (.inr (.inr s0)))
def Jr (a0:Option (List qj))(ai:qj)(s0:Int):qg:=⟨[(0,sl 3 zx a0,Eh),(1,.fn (.func 174) [] [.ah (aT ai)],Eh),(7,Lv a0,Eh),(8,Iv s0,Eh)],[]⟩
def Js (a0:Option (List qj))(ai:qj):Int⊕Int→qi×qg
 | .inl d=>(.ret,⟨[(4,Iv d,Eh)],[]⟩)
 | .inr d=>(.exit 0,⟨[(0,sl 3 zx a0,Eh),(1,.fn (.func 174) [] [.ah (aT ai)],Eh),(7,Lv a0,Eh),(8,Iv d,Eh),(9,.bool Eh,Eh)],[]⟩)
theorem jom (a0:Option (List qj))(ai:qj)(s0:Int)(r)(h:Pz a0 ai s0=I r):yr pr wL (Jr a0 ai) (Js a0 ai) s0 r:=by
 unfold Pz at h
 repeat' first|(replace h:=jx h;obtain⟨d,g,h⟩:=h;with_reducible first|replace g:=zfu [] g|skip)|(replace h:=jz h;rcases h with⟨g,h⟩|⟨g,h⟩)|fail
 all_goals (cases h<;>(first|(refine zu ?_;simp only[go_sem,seval,wL,Jr,zj,Js, *]<;>rfl)|(refine yl ?_;simp only[go_sem,seval,wL,Jr,zj,Js, *]<;>rfl)))
theorem jnp (a0:Option (List qj))(ai:qj){s0 d}(h:aY (Pz a0 ai) s0=I d):X pr (.loop wL) (Jr a0 ai s0)=I (Js a0 ai d):=y8 (jom a0 ai) (fun d=>by rcases d with d|d<;>(intro hh;cases hh)) h
def yF (a0:Option (List qj))(ai:qj):Option Int:=
 jw (aY (Pz a0 ai) 0) fun d19=>match d19 with
  | .inl d21=>
   I d21
  | .inr d22=>
   I (-1)
theorem jli {a0 ai r}(h:yF a0 ai=I r):jy pr (X pr) 240 [sl 3 zx a0,.fn (.func 174) [] [.ah (aT ai)]]=I (Iv r,Eh):=by
 unfold yF at h
 refine yz nu ?_
 repeat' first|(replace h:=jx h;obtain⟨d,g,h⟩:=h;with_reducible first|(replace g:=jnp a0 ai g;rcases d with d|d<;>dsimp only[Jr,Js,y7]at g h)|skip)|(replace h:=jz h;rcases h with⟨g,h⟩|⟨g,h⟩)|fail
 all_goals (cases h<;>(simp only[go_sem,seval,nu, *];exact⟨_,rfl⟩))
def Ir (a0:Option (List qj))(ai:qj):Option Bool:=
 jw (yF a0 ai) fun v1=>
 I (decide (0≤v1))
theorem j1j {a0 ai r}(h:Ir a0 ai=I r):jy pr (X pr) 175 [sl 3 zx a0,.fn (.func 174) [] [.ah (aT ai)]]=I (.bool r,Eh):=by
 unfold Ir at h
 refine yz nv ?_
 repeat' first|(replace h:=jx h;obtain⟨d,g,h⟩:=h;with_reducible first|replace g:=jli g|skip)|(replace h:=jz h;rcases h with⟨g,h⟩|⟨g,h⟩)|fail
 all_goals (cases h<;>(simp only[go_sem,seval,nv, *];exact⟨_,rfl⟩))
def f177 (a0:Option (List qj))(a1:qj)(dq:qj):Option ((Option (List qj))×Bool):=
 jw (yF a0 dq) fun v1=>
 cond (decide (0≤v1))
  (jw (jsg a0 v1 a1) fun v4=>
  I (v4,Eh))
  (jw (f243 a0 a1) fun v6=>
  I (v6,Ev))
theorem zhd {a0 a1 dq r}(h:f177 a0 a1 dq=I r):jy pr (X pr) 177 [sl 3 zx a0,aT a1,.fn (.func 174) [] [.ah (aT dq)]]=I (sl 3 zx r.1,r.2):=by
 unfold f177 at h
 refine eh sF ?_
 repeat' first|(replace h:=jx h;obtain⟨d,g,h⟩:=h; (with_reducible first|replace g:=jli g|replace g:=jkf g|replace g:=za6 g|skip);try dsimp only[y7,hH,Gm,kh,zk,zw,zm,aQ,y9,vev,aV,zx,db,aE,aR,aU,aL,aP,aD]at g)|(replace h:=jz h;rcases h with⟨g,h⟩|⟨g,h⟩)|fail
 all_goals (cases h<;>(simp only[go_sem,seval,sF, *];exact⟨_,rfl⟩))
def f192 (a0:qj)(a1:ql):Option Bool:=
 jw (zn (a1.names.getD []) 1) fun v1=>
 I (decide (a0.k=v1))
theorem zg6 (hp:za){a0 a1 r}(h:f192 a0 a1=I r):ze pr (X pr) 192 [aT a0,.ah (aE a1)] hp=I (.bool r,Eh,hp):=by
 unfold f192 at h
 obtain⟨v1,h2,h⟩:=jx h
 have hr:decide (a0.k=v1)=r:=I.inj h
 subst hr
 rw[zf (show pr.bB 192=I sG from rfl) (by simp)]
 simp only[go_sem,seval,sG,yx h2]<;>rfl
def Ix (a0:Option (List qj))(ai:ql)(s0:Int):Option (Int⊕(Int⊕Int)):=
 cond (decide (s0<((a0.getD []).length:Int)))
  (jw (zn (a0.getD []) s0) fun dB=>
  jw (f192 dB ai) fun da=>
  cond da
   (I (.inr (.inl s0)))
   (I (.inl (j6 .i64 (s0+1)))))
  (I (.inr (.inr s0)))
def Jt (a0:Option (List qj))(ai:ql)(s0:Int):qg:=⟨[(0,sl 3 zx a0,Eh),(1,.fn (.func 192) [] [.ah (aE ai)],Eh),(7,Lv a0,Eh),(8,Iv s0,Eh)],[]⟩
def Ju (a0:Option (List qj))(ai:ql):Int⊕Int→qi×qg
 | .inl d=>(.ret,⟨[(4,Iv d,Eh)],[]⟩)
 | .inr d=>(.exit 0,⟨[(0,sl 3 zx a0,Eh),(1,.fn (.func 192) [] [.ah (aE ai)],Eh),(7,Lv a0,Eh),(8,Iv d,Eh),(9,.bool Eh,Eh)],[]⟩)
theorem jmf (a0:Option (List qj))(ai:ql)(s0:Int)(r)(h:Ix a0 ai s0=I r):yr pr wL (Jt a0 ai) (Ju a0 ai) s0 r:=by
 unfold Ix at h
 repeat' first|(replace h:=jx h;obtain⟨d,g,h⟩:=h;with_reducible first|replace g:=zg6 [] g|skip)|(replace h:=jz h;rcases h with⟨g,h⟩|⟨g,h⟩)|fail
 all_goals (cases h<;>(first|(refine zu ?_;simp only[go_sem,seval,wL,Jt,zj,Ju, *]<;>rfl)|(refine yl ?_;simp only[go_sem,seval,wL,Jt,zj,Ju, *]<;>rfl)))
theorem jnw (a0:Option (List qj))(ai:ql){s0 d}(h:aY (Ix a0 ai) s0=I d):X pr (.loop wL) (Jt a0 ai s0)=I (Ju a0 ai d):=y8 (jmf a0 ai) (fun d=>by rcases d with d|d<;>(intro hh;cases hh)) h
def Iw (a0:Option (List qj))(ai:ql):Option Int:=
 jw (aY (Ix a0 ai) 0) fun d19=>match d19 with
  | .inl d21=>
   I d21
  | .inr d22=>
   I (-1)
theorem j23 {a0 ai r}(h:Iw a0 ai=I r):jy pr (X pr) 240 [sl 3 zx a0,.fn (.func 192) [] [.ah (aE ai)]]=I (Iv r,Eh):=by
 unfold Iw at h
 refine yz nu ?_
 repeat' first|(replace h:=jx h;obtain⟨d,g,h⟩:=h;with_reducible first|(replace g:=jnw a0 ai g;rcases d with d|d<;>dsimp only[Jt,Ju,y7]at g h)|skip)|(replace h:=jz h;rcases h with⟨g,h⟩|⟨g,h⟩)|fail
 all_goals (cases h<;>(simp only[go_sem,seval,nu, *];exact⟨_,rfl⟩))
def Iu (a0:Option (List qj))(ai:ql):Option Bool:=
 jw (Iw a0 ai) fun v1=>
 I (decide (0≤v1))
theorem j7j {a0 ai r}(h:Iu a0 ai=I r):jy pr (X pr) 175 [sl 3 zx a0,.fn (.func 192) [] [.ah (aE ai)]]=I (.bool r,Eh):=by
 unfold Iu at h
 refine yz nv ?_
 repeat' first|(replace h:=jx h;obtain⟨d,g,h⟩:=h;with_reducible first|replace g:=j23 g|skip)|(replace h:=jz h;rcases h with⟨g,h⟩|⟨g,h⟩)|fail
 all_goals (cases h<;>(simp only[go_sem,seval,nv, *];exact⟨_,rfl⟩))
def f187 (a0:qk)(a1:qm):Option Bool:=
 I (decide (a0.k=a1.name))
theorem za4 (hp:za){a0 a1 r}(h:f187 a0 a1=I r):ze pr (X pr) 187 [aN a0,.ah (aL a1)] hp=I (.bool r,Eh,hp):=by
 unfold f187 at h
 have hr:decide (a0.k=a1.name)=r:=I.inj h
 subst hr
 rw[zf (show pr.bB 187=I sH from rfl) (by simp)]
 simp only[go_sem,seval,sH]<;>rfl
def PA (a0:Option (List qk))(ai:qm)(s0:Int):Option (Int⊕(Int⊕Int)):=
 cond (decide (s0<((a0.getD []).length:Int)))
  (jw (zn (a0.getD []) s0) fun dB=>
  jw (f187 dB ai) fun da=>
  cond da
   (I (.inr (.inl s0)))
   (I (.inl (j6 .i64 (s0+1)))))
  (I (.inr (.inr s0)))
def Jv (a0:Option (List qk))(ai:qm)(s0:Int):qg:=⟨[(0,sl 2 aV a0,Eh),(1,.fn (.func 187) [] [.ah (aL ai)],Eh),(7,Lv a0,Eh),(8,Iv s0,Eh)],[]⟩
def Jw (a0:Option (List qk))(ai:qm):Int⊕Int→qi×qg
 | .inl d=>(.ret,⟨[(4,Iv d,Eh)],[]⟩)
 | .inr d=>(.exit 0,⟨[(0,sl 2 aV a0,Eh),(1,.fn (.func 187) [] [.ah (aL ai)],Eh),(7,Lv a0,Eh),(8,Iv d,Eh),(9,.bool Eh,Eh)],[]⟩)
theorem jt1 (a0:Option (List qk))(ai:qm)(s0:Int)(r)(h:PA a0 ai s0=I r):yr pr Jx (Jv a0 ai) (Jw a0 ai) s0 r:=by
 unfold PA at h
 repeat' first|(replace h:=jx h;obtain⟨d,g,h⟩:=h;with_reducible first|replace g:=za4 [] g|skip)|(replace h:=jz h;rcases h with⟨g,h⟩|⟨g,h⟩)|fail
 all_goals (cases h<;>(first|(refine zu ?_;simp only[go_sem,seval,Jx,Jv,zj,Jw, *]<;>rfl)|(refine yl ?_;simp only[go_sem,seval,Jx,Jv,zj,Jw, *]<;>rfl)))
theorem jv8 (a0:Option (List qk))(ai:qm){s0 d}(h:aY (PA a0 ai) s0=I d):X pr (.loop Jx) (Jv a0 ai s0)=I (Jw a0 ai d):=y8 (jt1 a0 ai) (fun d=>by rcases d with d|d<;>(intro hh;cases hh)) h
def f188 (a0:Option (List qk))(ai:qm):Option Int:=
 jw (aY (PA a0 ai) 0) fun d19=>match d19 with
  | .inl d21=>
   I d21
  | .inr d22=>
   I (-1)
theorem jt0 {a0 ai r}(h:f188 a0 ai=I r):jy pr (X pr) 188 [sl 2 aV a0,.fn (.func 187) [] [.ah (aL ai)]]=I (Iv r,Eh):=by
 unfold f188 at h
 refine yz sI ?_
 repeat' first|(replace h:=jx h;obtain⟨d,g,h⟩:=h;with_reducible first|(replace g:=jv8 a0 ai g;rcases d with d|d<;>dsimp only[Jv,Jw,y7]at g h)|skip)|(replace h:=jz h;rcases h with⟨g,h⟩|⟨g,h⟩)|fail
 all_goals (cases h<;>(simp only[go_sem,seval,sI, *];exact⟨_,rfl⟩))
def f191 (a0:Option (List qk))(a1:qk)(dq:qm):Option ((Option (List qk))×Bool):=
 jw (f188 a0 dq) fun v1=>
 cond (decide (0≤v1))
  (jw (jui a0 v1 a1) fun v4=>
  I (v4,Eh))
  (jw (f250 a0 a1) fun v6=>
  I (v6,Ev))
theorem zjs {a0 a1 dq r}(h:f191 a0 a1 dq=I r):jy pr (X pr) 191 [sl 2 aV a0,aN a1,.fn (.func 187) [] [.ah (aL dq)]]=I (sl 2 aV r.1,r.2):=by
 unfold f191 at h
 refine eh sJ ?_
 repeat' first|(replace h:=jx h;obtain⟨d,g,h⟩:=h; (with_reducible first|replace g:=jt0 g|replace g:=jic g|replace g:=zgr g|skip);try dsimp only[y7,hH,Gm,kh,zk,zw,zm,aQ,y9,vev,aV,zx,db,aE,aR,aU,aL,aP,aD]at g)|(replace h:=jz h;rcases h with⟨g,h⟩|⟨g,h⟩)|fail
 all_goals (cases h<;>(simp only[go_sem,seval,sJ, *];exact⟨_,rfl⟩))
end Go.Z
end
