/- Chapter 10. -/
import Derived.Test.YtfopaakmgogpiaaGreatDoorCA
import Derived.Test.YtfopaakmgogpiaaGreatDoorG0
import Derived.Test.YtfopaakmgogpiaaGreatDoorAbsL
import Derived.Test.YtfopaakmgogpiaaGreatDoorW6
import Derived.Test.YtfopaakmgogpiaaGreatDoorW4
set_option linter.unusedVariables false
set_option linter.unusedSimpArgs false
set_option maxRecDepth 100000
noncomputable section
open Option renaming some→I,none→E3
open Bool renaming false→Ef,true→E6,and_self→Gy
open Nat renaming le_of_ble_eq_true→En,beq_refl→E7,ble_eq_true_of_le→E9,beq→Ga,blt_eq→Gm
open List renaming replicate→E0,getElem?_eq_some_iff→E1,length_set→E4,take_of_length_le→Gb,drop_eq_nil_of_le→Gc,length_map→Gd,nil_append→Ge,map→Gz
namespace Go.Z
open Go Go.Abs Go.W
section
variable {p:qt}{xc:XC}{h0:Nat}{al:Option (List Nat)}{e:Env}{h:j8}{α:Type}
structure oF (f:α→qa)(sz:Nat):Prop where
 len:∀x,(f x).flat.length=sz
 sc:∀x,(f x).flat.all ze=E6
 ag:∀x,f x=.agg (f x).flat
 ref:∀x,(f x).flat.any LW=E6
 big:1<sz
variable {f:α→qa}{sz:Nat}
theorem jen (E:oF f sz)(l:List α):(yw f l).all ze=E6:=by
 induction l with
 |nil=>rfl
 |cons x l ih=>rw[vF,List.all_append,E.sc,ih];rfl
theorem q6j (E:oF f sz):∀(l:List α),lV sz l.length (yw f l)=l.map f
 | []=>rfl
 |x::l=>by
  have hb:Ga sz 1=Ef:=by
   have:=E.big
   cases h:Ga sz 1 with
   |false=>rfl
   |true=>have:=Nat.eq_of_beq_eq_true h;omega
  have hl:=E.len x
  show(bif Ga sz 1 then(yw f (x::l)).headD .undef else .agg ((yw f (x::l)).take sz))::lV sz l.length ((yw f (x::l)).drop sz)=_
  rw[hb,cond_false,vF,List.take_append_of_le_length (by omega),List.drop_append_of_le_length (by omega),Gb (by omega),Gc (by omega),Ge,q6j E l,←E.ag]
  rfl
theorem uT (E:oF f sz){l:List α}(hl:0<l.length){cs:List (qa×Bool)}(hc:cs.map (·.1)=yw f l):NF (I cs) 0 l.length=I (.list Ef sz (l.map f)):=by
 have du:cs.length=l.length*sz:=by rw[←Gd (f:=(·.1)),hc,Gx E.len]
 have hdiv:cs.length / l.length=sz:=by rw[du];exact Nat.mul_div_cancel_left _ hl
 have Wb:cs.any (fun c=>LW c.1)=E6:=by
  cases l with
  |nil=>cases hl
  |cons x l=>
   have:(cs.map (·.1)).any LW=E6:=by rw[hc,vF,List.any_append,E.ref];rfl
   rw[List.any_map]at this
   exact this
 have hr:Dc 0 l.length cs=E6:=by
  have hb:Nat.blt 1 sz=E6:=Gm.mpr E.big
  rw[Dc,hdiv,hb,Wb,du,E7,E7];rfl
 unfold NF
 simp only[hr,cT,hdiv]
 rw[hc,q6j E]
theorem Bb {r n Wc:Nat}{zero:List qa}(hz:zero.length=sz)(hs:zero.all ze=E6)(h1:0<sz)(hn:n≤1073741824)(hb:Wc≤4096){h':j8}(hh:aJ h0 h r (.cells (cellsOf (E0 n zero).flatten))=I h'):
  uS h0 r sz Wc zero h (I (Iv (n:Int))) (I (Iv (n:Int)))=I ⟨.ms (h0+r) 0 n,Ef,E3,h'⟩:=by
 show(bif Ga n n&&Nat.ble n 1073741824&&Nat.ble Wc 4096&&Ga zero.length sz&&Nat.blt 0 sz&&zero.all ze then _ else _)=_
 rw[E7,E9 hn,E9 hb,hz,E7,Gm.mpr h1,hs]
 simp only[Gy,cT,hh]
 rfl
theorem Bc (E:oF f sz){b:Nat}{l:Option (List α)}{cs:List (qa×Bool)}(hb:h[b]?=I (.cells cs))(hc:cs.length=(l.getD []).length*sz)(dj:yv h0 al b=E6):
  vT h0 al sz h (I (.ms b 0 (l.getD []).length)) (I (sl sz f l))=I ⟨Lv l,Ef,E3,h.set b (.cells (bB f (l.getD [])))⟩:=by
 have kP:ym h b=I cs:=by rw[q5s,hb];rfl
 have aY:=(E1.1 hb).1
 have cy:yY sz (l.getD []).length (sl sz f l)=I ((l.getD []).length,yw f (l.getD [])):=by
  cases l with
  |none=>simp[sl,yY,yw]
  |some l=>
   show(bif Ga sz sz||(l.map f).isEmpty then I (min (l.map f).length l.length,((l.map f).take l.length).flatMap qa.flat)else E3)=_
   rw[E7,Gd,Nat.min_self,Gb (by rw[Gd];exact Nat.le_refl _)]
   rfl
 have zN:(yw f (l.getD [])).length=(l.getD []).length*sz:=Gx E.len _
 have bU:yh cs 0 (yw f (l.getD []))=I (bB f (l.getD [])):=by
  unfold yh
  rw[jen E,zN,hc,E9 (by omega)]
  simp only[Gy,cT,List.take_zero,Ge]
  rw[Gc (by rw[hc];omega),List.append_nil]
  rfl
 have bq:yl h b (.cells (bB f (l.getD [])))=I (h.set b (.cells (bB f (l.getD [])))):=by
  simp only[yl,Gm.mpr aY,cT]
 show(bif yv h0 al b then(match ym h b with
   |some cs=>(match yY sz (l.getD []).length (sl sz f l)with
    |some (n,vs)=>(match yh cs 0 vs with
     |some dV=>bif Ga vs.length (n*sz)then(match yl h b (.cells dV)with
      |some h'=>val h' (Iv n)
      |none=>E3)else E3
     |none=>E3)
    |none=>E3)
   |none=>E3)else E3)=_
 rw[dj,kP,cy]
 simp only[cT,bU,zN,E7,bq]
 rfl
theorem uU {b n i:Nat}{k:IntKind}(hi:i<n):gE sz h (I (.ms b 0 n)) (I (.int k (i:Int)))=I ⟨.ptr b (i*sz),Ef,E3,h⟩:=by
 have:idx n (.int k (i:Int))=I i:=by rw[xp];exact Ud hi
 simp only[gE,this,Nat.zero_add]
 rfl
end
end Go.Z
set_option maxHeartbeats 4000000
namespace Go.Z
open Go Go.Abs Go.W
theorem fO:oF z7 5:=⟨fun _=>rfl,fun _=>rfl,fun _=>rfl,fun _=>rfl,by omega⟩
theorem oG:oF aS 2:=⟨fun _=>rfl,fun _=>rfl,fun _=>rfl,fun _=>rfl,by omega⟩
theorem qX:oF zz 3:=⟨fun _=>rfl,fun _=>rfl,fun _=>rfl,fun _=>rfl,by omega⟩
theorem cm:oF zr 4:=⟨fun _=>rfl,fun _=>by simp only[go_sem,seval,q73]<;>simp only[List.all,go_sem],fun _=>rfl,fun _=>rfl,by omega⟩
theorem dJ:oF bp 8:=⟨fun _=>rfl,fun _=>by simp only[go_sem,seval,jit]<;>simp only[List.all,go_sem],fun _=>rfl,fun _=>rfl,by omega⟩
theorem j97 {j:Nat}{caps:List qa}{l:Option (List qi)}{i:Nat}{cs:List (qa×Bool)}(hlen:(l.getD []).length≤1073741824)(hi:i<(l.getD []).length)(du:zf pr (X pr) j (.ptr 0 (i*4)::caps) [.cells (bB zr (l.getD []))]=I (.aB [],Ef,[.cells cs])):zf pr (X pr) 178 [sl 4 zr l,Iv (i:Int),.fn (.func j) [] caps] []=I (.ms 0 0 ((l.getD []).length),Ef,[.cells cs]):=by
 rw[zd (show pr.bj 178=I qY from rfl) (by simp)]
 have oH:uS 0 0 4 88 [(.str []),(Nl),(Nl),(Nl)] [.hole] (I (Lv l)) (I (Lv l))=I ⟨.ms 0 0 (l.getD []).length,Ef,E3,[.cells (cellsOf (E0 (l.getD []).length [(.str []),(Nl),(Nl),(Nl)]).flatten)]⟩:=by apply Bb<;>first|exact hlen|rfl|decide
 have oI:vT 1 E3 4 [.cells (cellsOf (E0 (l.getD []).length [(.str []),(Nl),(Nl),(Nl)]).flatten)] (I (.ms 0 0 (l.getD []).length)) (I (sl 4 zr l))=I ⟨Lv l,Ef,E3,[.cells (bB zr (l.getD []))]⟩:=Bc cm rfl (by simp[cellsOf]) rfl
 simp only[go_sem,seval,qY,oH,oI,uU hi,du]<;>rfl
theorem j59{y:qi} {j:Nat} {caps:List qa} {l:Option (List qi)} {i:Nat} {cs:List (qa×Bool)} (hlen:(l.getD []).length≤1073741824) (hi:i<(l.getD []).length) (du:zf pr (X pr) j (.ptr 0 (i*4)::caps) [.cells (bB zr (l.getD []))]=I (.aB [],Ef,[.cells cs])) (hcs:cs.map (·.1)=yw zr ((l.getD []).set i y)):jy pr (X pr) 178 [sl 4 zr l,Iv (i:Int),.fn (.func j) [] caps]=I (sl 4 zr (I ((l.getD []).set i y)),Ef):=by
 have hl:((l.getD []).set i y).length=(l.getD []).length:=E4
 have hz:aC [.cells cs] (.ms 0 0 ((l.getD []).length))=I (sl 4 zr (I ((l.getD []).set i y))):=by
  rw[Eg,←hl]
  exact uT cm (by rw[hl];omega) hcs
 exact ko rfl (j97 hlen hi du) hz (by first|rfl|simp only[go_sem,seval])
theorem za9 {j:Nat}{caps:List qa}{l:Option (List qk)}{i:Nat}{cs:List (qa×Bool)}(hlen:(l.getD []).length≤1073741824)(hi:i<(l.getD []).length)(du:zf pr (X pr) j (.ptr 0 (i*5)::caps) [.cells (bB z7 (l.getD []))]=I (.aB [],Ef,[.cells cs])):zf pr (X pr) 185 [sl 5 z7 l,Iv (i:Int),.fn (.func j) [] caps] []=I (.ms 0 0 ((l.getD []).length),Ef,[.cells cs]):=by
 rw[zd (show pr.bj 185=I qZ from rfl) (by simp)]
 have oH:uS 0 0 5 56 [(.str []),(.str []),(Iv 0),(Iv 0),(.bool Ef)] [.hole] (I (Lv l)) (I (Lv l))=I ⟨.ms 0 0 (l.getD []).length,Ef,E3,[.cells (cellsOf (E0 (l.getD []).length [(.str []),(.str []),(Iv 0),(Iv 0),(.bool Ef)]).flatten)]⟩:=by apply Bb<;>first|exact hlen|rfl|decide
 have oI:vT 1 E3 5 [.cells (cellsOf (E0 (l.getD []).length [(.str []),(.str []),(Iv 0),(Iv 0),(.bool Ef)]).flatten)] (I (.ms 0 0 (l.getD []).length)) (I (sl 5 z7 l))=I ⟨Lv l,Ef,E3,[.cells (bB z7 (l.getD []))]⟩:=Bc fO rfl (by simp[cellsOf]) rfl
 simp only[go_sem,seval,qZ,oH,oI,uU hi,du]<;>rfl
theorem j4y{y:qk} {j:Nat} {caps:List qa} {l:Option (List qk)} {i:Nat} {cs:List (qa×Bool)} (hlen:(l.getD []).length≤1073741824) (hi:i<(l.getD []).length) (du:zf pr (X pr) j (.ptr 0 (i*5)::caps) [.cells (bB z7 (l.getD []))]=I (.aB [],Ef,[.cells cs])) (hcs:cs.map (·.1)=yw z7 ((l.getD []).set i y)):jy pr (X pr) 185 [sl 5 z7 l,Iv (i:Int),.fn (.func j) [] caps]=I (sl 5 z7 (I ((l.getD []).set i y)),Ef):=by
 have hl:((l.getD []).set i y).length=(l.getD []).length:=E4
 have hz:aC [.cells cs] (.ms 0 0 ((l.getD []).length))=I (sl 5 z7 (I ((l.getD []).set i y))):=by
  rw[Eg,←hl]
  exact uT fO (by rw[hl];omega) hcs
 exact ko rfl (za9 hlen hi du) hz (by first|rfl|simp only[go_sem,seval])
theorem zh5 {j:Nat}{caps:List qa}{l:Option (List qf)}{i:Nat}{cs:List (qa×Bool)}(hlen:(l.getD []).length≤1073741824)(hi:i<(l.getD []).length)(du:zf pr (X pr) j (.ptr 0 (i*8)::caps) [.cells (bB bp (l.getD []))]=I (.aB [],Ef,[.cells cs])):zf pr (X pr) 189 [sl 8 bp l,Iv (i:Int),.fn (.func j) [] caps] []=I (.ms 0 0 ((l.getD []).length),Ef,[.cells cs]):=by
 rw[zd (show pr.bj 189=I nc from rfl) (by simp)]
 have oH:uS 0 0 8 120 [(.str []),(.str []),(Iv 0),(Nl),(Nl),(.str []),(.bool Ef),(Iv 0)] [.hole] (I (Lv l)) (I (Lv l))=I ⟨.ms 0 0 (l.getD []).length,Ef,E3,[.cells (cellsOf (E0 (l.getD []).length [(.str []),(.str []),(Iv 0),(Nl),(Nl),(.str []),(.bool Ef),(Iv 0)]).flatten)]⟩:=by apply Bb<;>first|exact hlen|rfl|decide
 have oI:vT 1 E3 8 [.cells (cellsOf (E0 (l.getD []).length [(.str []),(.str []),(Iv 0),(Nl),(Nl),(.str []),(.bool Ef),(Iv 0)]).flatten)] (I (.ms 0 0 (l.getD []).length)) (I (sl 8 bp l))=I ⟨Lv l,Ef,E3,[.cells (bB bp (l.getD []))]⟩:=Bc dJ rfl (by simp[cellsOf]) rfl
 simp only[go_sem,seval,nc,oH,oI,uU hi,du]<;>rfl
theorem j0a{y:qf} {j:Nat} {caps:List qa} {l:Option (List qf)} {i:Nat} {cs:List (qa×Bool)} (hlen:(l.getD []).length≤1073741824) (hi:i<(l.getD []).length) (du:zf pr (X pr) j (.ptr 0 (i*8)::caps) [.cells (bB bp (l.getD []))]=I (.aB [],Ef,[.cells cs])) (hcs:cs.map (·.1)=yw bp ((l.getD []).set i y)):jy pr (X pr) 189 [sl 8 bp l,Iv (i:Int),.fn (.func j) [] caps]=I (sl 8 bp (I ((l.getD []).set i y)),Ef):=by
 have hl:((l.getD []).set i y).length=(l.getD []).length:=E4
 have hz:aC [.cells cs] (.ms 0 0 ((l.getD []).length))=I (sl 8 bp (I ((l.getD []).set i y))):=by
  rw[Eg,←hl]
  exact uT dJ (by rw[hl];omega) hcs
 exact ko rfl (zh5 hlen hi du) hz (by first|rfl|simp only[go_sem,seval])
theorem jj4 {b0 b1 b2 b3 b4:qn}{j:Nat}{caps:List qa}{l:Option (List qf)}{i:Nat}{cs:List (qa×Bool)}(hlen:(l.getD []).length≤1073741824)(hi:i<(l.getD []).length)(du:zf pr (X pr) j (.ptr 5 (i*8)::caps) [b0,b1,b2,b3,b4,.cells (bB bp (l.getD []))]=I (.aB [],Ef,[b0,b1,b2,b3,b4,.cells cs])):zf pr (X pr) 189 [sl 8 bp l,Iv (i:Int),.fn (.func j) [] caps] [b0,b1,b2,b3,b4]=I (.ms 5 0 ((l.getD []).length),Ef,[b0,b1,b2,b3,b4,.cells cs]):=by
 rw[zd (show pr.bj 189=I nc from rfl) (by simp)]
 have oH:uS 5 0 8 120 [(.str []),(.str []),(Iv 0),(Nl),(Nl),(.str []),(.bool Ef),(Iv 0)] [b0,b1,b2,b3,b4,.hole] (I (Lv l)) (I (Lv l))=I ⟨.ms 5 0 (l.getD []).length,Ef,E3,[b0,b1,b2,b3,b4,.cells (cellsOf (E0 (l.getD []).length [(.str []),(.str []),(Iv 0),(Nl),(Nl),(.str []),(.bool Ef),(Iv 0)]).flatten)]⟩:=by apply Bb<;>first|exact hlen|rfl|decide
 have oI:vT 6 E3 8 [b0,b1,b2,b3,b4,.cells (cellsOf (E0 (l.getD []).length [(.str []),(.str []),(Iv 0),(Nl),(Nl),(.str []),(.bool Ef),(Iv 0)]).flatten)] (I (.ms 5 0 (l.getD []).length)) (I (sl 8 bp l))=I ⟨Lv l,Ef,E3,[b0,b1,b2,b3,b4,.cells (bB bp (l.getD []))]⟩:=Bc dJ rfl (by simp[cellsOf]) rfl
 simp only[go_sem,seval,nc,oH,oI,uU hi,du]<;>rfl
theorem zhf {j:Nat}{caps:List qa}{l:Option (List qm)}{i:Nat}{cs:List (qa×Bool)}(hlen:(l.getD []).length≤1073741824)(hi:i<(l.getD []).length)(du:zf pr (X pr) j (.ptr 0 (i*2)::caps) [.cells (bB aS (l.getD []))]=I (.aB [],Ef,[.cells cs])):zf pr (X pr) 237 [sl 2 aS l,Iv (i:Int),.fn (.func j) [] caps] []=I (.ms 0 0 ((l.getD []).length),Ef,[.cells cs]):=by
 rw[zd (show pr.bj 237=I rh from rfl) (by simp)]
 have oH:uS 0 0 2 24 [(.str []),(Iv 0)] [.hole] (I (Lv l)) (I (Lv l))=I ⟨.ms 0 0 (l.getD []).length,Ef,E3,[.cells (cellsOf (E0 (l.getD []).length [(.str []),(Iv 0)]).flatten)]⟩:=by apply Bb<;>first|exact hlen|rfl|decide
 have oI:vT 1 E3 2 [.cells (cellsOf (E0 (l.getD []).length [(.str []),(Iv 0)]).flatten)] (I (.ms 0 0 (l.getD []).length)) (I (sl 2 aS l))=I ⟨Lv l,Ef,E3,[.cells (bB aS (l.getD []))]⟩:=Bc oG rfl (by simp[cellsOf]) rfl
 simp only[go_sem,seval,rh,oH,oI,uU hi,du]<;>rfl
theorem j1p{y:qm} {j:Nat} {caps:List qa} {l:Option (List qm)} {i:Nat} {cs:List (qa×Bool)} (hlen:(l.getD []).length≤1073741824) (hi:i<(l.getD []).length) (du:zf pr (X pr) j (.ptr 0 (i*2)::caps) [.cells (bB aS (l.getD []))]=I (.aB [],Ef,[.cells cs])) (hcs:cs.map (·.1)=yw aS ((l.getD []).set i y)):jy pr (X pr) 237 [sl 2 aS l,Iv (i:Int),.fn (.func j) [] caps]=I (sl 2 aS (I ((l.getD []).set i y)),Ef):=by
 have hl:((l.getD []).set i y).length=(l.getD []).length:=E4
 have hz:aC [.cells cs] (.ms 0 0 ((l.getD []).length))=I (sl 2 aS (I ((l.getD []).set i y))):=by
  rw[Eg,←hl]
  exact uT oG (by rw[hl];omega) hcs
 exact ko rfl (zhf hlen hi du) hz (by first|rfl|simp only[go_sem,seval])
theorem zag {j:Nat}{caps:List qa}{l:Option (List qj)}{i:Nat}{cs:List (qa×Bool)}(hlen:(l.getD []).length≤1073741824)(hi:i<(l.getD []).length)(du:zf pr (X pr) j (.ptr 0 (i*3)::caps) [.cells (bB zz (l.getD []))]=I (.aB [],Ef,[.cells cs])):zf pr (X pr) 241 [sl 3 zz l,Iv (i:Int),.fn (.func j) [] caps] []=I (.ms 0 0 ((l.getD []).length),Ef,[.cells cs]):=by
 rw[zd (show pr.bj 241=I ri from rfl) (by simp)]
 have oH:uS 0 0 3 32 [(.str []),(Iv 0),(Iv 0)] [.hole] (I (Lv l)) (I (Lv l))=I ⟨.ms 0 0 (l.getD []).length,Ef,E3,[.cells (cellsOf (E0 (l.getD []).length [(.str []),(Iv 0),(Iv 0)]).flatten)]⟩:=by apply Bb<;>first|exact hlen|rfl|decide
 have oI:vT 1 E3 3 [.cells (cellsOf (E0 (l.getD []).length [(.str []),(Iv 0),(Iv 0)]).flatten)] (I (.ms 0 0 (l.getD []).length)) (I (sl 3 zz l))=I ⟨Lv l,Ef,E3,[.cells (bB zz (l.getD []))]⟩:=Bc qX rfl (by simp[cellsOf]) rfl
 simp only[go_sem,seval,ri,oH,oI,uU hi,du]<;>rfl
theorem j62{y:qj} {j:Nat} {caps:List qa} {l:Option (List qj)} {i:Nat} {cs:List (qa×Bool)} (hlen:(l.getD []).length≤1073741824) (hi:i<(l.getD []).length) (du:zf pr (X pr) j (.ptr 0 (i*3)::caps) [.cells (bB zz (l.getD []))]=I (.aB [],Ef,[.cells cs])) (hcs:cs.map (·.1)=yw zz ((l.getD []).set i y)):jy pr (X pr) 241 [sl 3 zz l,Iv (i:Int),.fn (.func j) [] caps]=I (sl 3 zz (I ((l.getD []).set i y)),Ef):=by
 have hl:((l.getD []).set i y).length=(l.getD []).length:=E4
 have hz:aC [.cells cs] (.ms 0 0 ((l.getD []).length))=I (sl 3 zz (I ((l.getD []).set i y))):=by
  rw[Eg,←hl]
  exact uT qX (by rw[hl];omega) hcs
 exact ko rfl (zag hlen hi du) hz (by first|rfl|simp only[go_sem,seval])
theorem zd5 {j:Nat}{caps:List qa}{l:Option (List qm)}{i:Nat}{cs:List (qa×Bool)}(hlen:(l.getD []).length≤1073741824)(hi:i<(l.getD []).length)(du:zf pr (X pr) j (.ptr 0 (i*2)::caps) [.cells (bB aS (l.getD []))]=I (.aB [],Ef,[.cells cs])):zf pr (X pr) 248 [sl 2 aS l,Iv (i:Int),.fn (.func j) [] caps] []=I (.ms 0 0 ((l.getD []).length),Ef,[.cells cs]):=by
 rw[zd (show pr.bj 248=I rj from rfl) (by simp)]
 have oH:uS 0 0 2 24 [(.str []),(Iv 0)] [.hole] (I (Lv l)) (I (Lv l))=I ⟨.ms 0 0 (l.getD []).length,Ef,E3,[.cells (cellsOf (E0 (l.getD []).length [(.str []),(Iv 0)]).flatten)]⟩:=by apply Bb<;>first|exact hlen|rfl|decide
 have oI:vT 1 E3 2 [.cells (cellsOf (E0 (l.getD []).length [(.str []),(Iv 0)]).flatten)] (I (.ms 0 0 (l.getD []).length)) (I (sl 2 aS l))=I ⟨Lv l,Ef,E3,[.cells (bB aS (l.getD []))]⟩:=Bc oG rfl (by simp[cellsOf]) rfl
 simp only[go_sem,seval,rj,oH,oI,uU hi,du]<;>rfl
theorem j6h{y:qm} {j:Nat} {caps:List qa} {l:Option (List qm)} {i:Nat} {cs:List (qa×Bool)} (hlen:(l.getD []).length≤1073741824) (hi:i<(l.getD []).length) (du:zf pr (X pr) j (.ptr 0 (i*2)::caps) [.cells (bB aS (l.getD []))]=I (.aB [],Ef,[.cells cs])) (hcs:cs.map (·.1)=yw aS ((l.getD []).set i y)):jy pr (X pr) 248 [sl 2 aS l,Iv (i:Int),.fn (.func j) [] caps]=I (sl 2 aS (I ((l.getD []).set i y)),Ef):=by
 have hl:((l.getD []).set i y).length=(l.getD []).length:=E4
 have hz:aC [.cells cs] (.ms 0 0 ((l.getD []).length))=I (sl 2 aS (I ((l.getD []).set i y))):=by
  rw[Eg,←hl]
  exact uT oG (by rw[hl];omega) hcs
 exact ko rfl (zd5 hlen hi du) hz (by first|rfl|simp only[go_sem,seval])
end Go.Z
namespace Go.Z
open Go Go.Abs Go.W
def fN {α:Type}(l:Option (List α))(i:Int)(g:α→Option α):Option (Option (List α)):=
 if(l.getD []).length≤1073741824∧0≤i then(match(l.getD [])[i.toNat]? with
  |some x=>(match g x with
   |some y=>I (I ((l.getD []).set i.toNat y))
   |none=>E3)
  |none=>E3)else E3
theorem x9 {α:Type}{l:Option (List α)}{i:Int}{g:α→Option α}{r}(h:fN l i g=I r):∃(n:Nat) (x y:α),i=(n:Int)∧(l.getD []).length≤1073741824∧(l.getD [])[n]?=I x∧g x=I y∧r=I ((l.getD []).set n y):=by
 unfold fN at h
 split at h
 ·rename_i hc
  split at h
  ·rename_i x hx
   split at h
   ·rename_i y hy
    cases h
    exact⟨i.toNat,x,y,(Int.toNat_of_nonneg hc.2).symm,hc.1,hx,hy,rfl⟩
   ·cases h
  ·cases h
 ·cases h
theorem Wd {l r:Option (List qi)}{i:Int}{g:qi→Option qi}{j:Nat}{caps:List qa}(du:∀(n:Nat) (x y:qi),(l.getD [])[n]?=I x→g x=I y→∃cs,zf pr (X pr) j (.ptr 0 (n*4)::caps) [.cells (bB zr (l.getD []))]=I (.aB [],Ef,[.cells cs])∧cs.map (·.1)=yw zr ((l.getD []).set n y))(h:fN l i g=I r):jy pr (X pr) 178 [sl 4 zr l,Iv i,.fn (.func j) [] caps]=I (sl 4 zr r,Ef):=by
 obtain⟨n,x,y,rfl,hl,hx,hy,rfl⟩:=x9 h
 obtain⟨cs,h1,h2⟩:=du n x y hx hy
 exact j59 hl (E1.1 hx).1 h1 h2
theorem Wf {l r:Option (List qk)}{i:Int}{g:qk→Option qk}{j:Nat}{caps:List qa}(du:∀(n:Nat) (x y:qk),(l.getD [])[n]?=I x→g x=I y→∃cs,zf pr (X pr) j (.ptr 0 (n*5)::caps) [.cells (bB z7 (l.getD []))]=I (.aB [],Ef,[.cells cs])∧cs.map (·.1)=yw z7 ((l.getD []).set n y))(h:fN l i g=I r):jy pr (X pr) 185 [sl 5 z7 l,Iv i,.fn (.func j) [] caps]=I (sl 5 z7 r,Ef):=by
 obtain⟨n,x,y,rfl,hl,hx,hy,rfl⟩:=x9 h
 obtain⟨cs,h1,h2⟩:=du n x y hx hy
 exact j4y hl (E1.1 hx).1 h1 h2
theorem Ei {l r:Option (List qf)}{i:Int}{g:qf→Option qf}{j:Nat}{caps:List qa}(du:∀(n:Nat) (x y:qf),(l.getD [])[n]?=I x→g x=I y→∃cs,zf pr (X pr) j (.ptr 0 (n*8)::caps) [.cells (bB bp (l.getD []))]=I (.aB [],Ef,[.cells cs])∧cs.map (·.1)=yw bp ((l.getD []).set n y))(h:fN l i g=I r):jy pr (X pr) 189 [sl 8 bp l,Iv i,.fn (.func j) [] caps]=I (sl 8 bp r,Ef):=by
 obtain⟨n,x,y,rfl,hl,hx,hy,rfl⟩:=x9 h
 obtain⟨cs,h1,h2⟩:=du n x y hx hy
 exact j0a hl (E1.1 hx).1 h1 h2
theorem j3e {l r:Option (List qm)}{i:Int}{g:qm→Option qm}{j:Nat}{caps:List qa}(du:∀(n:Nat) (x y:qm),(l.getD [])[n]?=I x→g x=I y→∃cs,zf pr (X pr) j (.ptr 0 (n*2)::caps) [.cells (bB aS (l.getD []))]=I (.aB [],Ef,[.cells cs])∧cs.map (·.1)=yw aS ((l.getD []).set n y))(h:fN l i g=I r):jy pr (X pr) 237 [sl 2 aS l,Iv i,.fn (.func j) [] caps]=I (sl 2 aS r,Ef):=by
 obtain⟨n,x,y,rfl,hl,hx,hy,rfl⟩:=x9 h
 obtain⟨cs,h1,h2⟩:=du n x y hx hy
 exact j1p hl (E1.1 hx).1 h1 h2
theorem j0f {l r:Option (List qj)}{i:Int}{g:qj→Option qj}{j:Nat}{caps:List qa}(du:∀(n:Nat) (x y:qj),(l.getD [])[n]?=I x→g x=I y→∃cs,zf pr (X pr) j (.ptr 0 (n*3)::caps) [.cells (bB zz (l.getD []))]=I (.aB [],Ef,[.cells cs])∧cs.map (·.1)=yw zz ((l.getD []).set n y))(h:fN l i g=I r):jy pr (X pr) 241 [sl 3 zz l,Iv i,.fn (.func j) [] caps]=I (sl 3 zz r,Ef):=by
 obtain⟨n,x,y,rfl,hl,hx,hy,rfl⟩:=x9 h
 obtain⟨cs,h1,h2⟩:=du n x y hx hy
 exact j62 hl (E1.1 hx).1 h1 h2
theorem j5t {l r:Option (List qm)}{i:Int}{g:qm→Option qm}{j:Nat}{caps:List qa}(du:∀(n:Nat) (x y:qm),(l.getD [])[n]?=I x→g x=I y→∃cs,zf pr (X pr) j (.ptr 0 (n*2)::caps) [.cells (bB aS (l.getD []))]=I (.aB [],Ef,[.cells cs])∧cs.map (·.1)=yw aS ((l.getD []).set n y))(h:fN l i g=I r):jy pr (X pr) 248 [sl 2 aS l,Iv i,.fn (.func j) [] caps]=I (sl 2 aS r,Ef):=by
 obtain⟨n,x,y,rfl,hl,hx,hy,rfl⟩:=x9 h
 obtain⟨cs,h1,h2⟩:=du n x y hx hy
 exact j6h hl (E1.1 hx).1 h1 h2
theorem zdp {l:List qk}{i:Nat}{x:qk}(hx:l[i]?=I x):zf pr (X pr) 198 [.ptr 0 (i*5)] [.cells (bB z7 l)]=I (.aB [],Ef,[.cells (bB z7 (l.set i { x with held:=E6 }))]):=by
 rw[zd (show pr.bj 198=I rm from rfl) (by simp)]
 have st:yh (bB z7 l) (i*5+4) [.bool E6]=I (bB z7 (l.set i { x with held:=E6 })):=l0 (o:=4) fO.len hx (En rfl) rfl rfl
 simp only[go_sem,seval,rm,st]<;>rfl
def Vj (l:Option (List qk))(i:Int):Option (Option (List qk)):=fN l i fun x=>I { x with held:=E6 }
theorem jfu {l:Option (List qk)}{i:Int}{r}(h:Vj l i=I r):jy pr (X pr) 185 [sl 5 z7 l,Iv i,.fn (.func 198) [] []]=I (sl 5 z7 r,Ef):=
 Wf (fun n x y hx hy=>by cases hy;exact⟨_,zdp hx,kx⟩) h
theorem j9s {l:List qk}{i:Nat}{x:qk}(hx:l[i]?=I x):zf pr (X pr) 199 [.ptr 0 (i*5)] [.cells (bB z7 l)]=I (.aB [],Ef,[.cells (bB z7 (l.set i { x with held:=Ef }))]):=by
 rw[zd (show pr.bj 199=I rn from rfl) (by simp)]
 have st:yh (bB z7 l) (i*5+4) [.bool Ef]=I (bB z7 (l.set i { x with held:=Ef })):=l0 (o:=4) fO.len hx (En rfl) rfl rfl
 simp only[go_sem,seval,rn,st]<;>rfl
def Vk (l:Option (List qk))(i:Int):Option (Option (List qk)):=fN l i fun x=>I { x with held:=Ef }
theorem jhb {l:Option (List qk)}{i:Int}{r}(h:Vk l i=I r):jy pr (X pr) 185 [sl 5 z7 l,Iv i,.fn (.func 199) [] []]=I (sl 5 z7 r,Ef):=
 Wf (fun n x y hx hy=>by cases hy;exact⟨_,j9s hx,kx⟩) h
theorem zct {l:List qf}{i:Nat}{x:qf}(hx:l[i]?=I x):zf pr (X pr) 200 [.ptr 0 (i*8)] [.cells (bB bp l)]=I (.aB [],Ef,[.cells (bB bp (l.set i { x with aq:=E6 }))]):=by
 rw[zd (show pr.bj 200=I rz from rfl) (by simp)]
 have st:yh (bB bp l) (i*8+6) [.bool E6]=I (bB bp (l.set i { x with aq:=E6 })):=l0 (o:=6) dJ.len hx (En rfl) rfl rfl
 simp only[go_sem,seval,rz,st]<;>rfl
def Vn (l:Option (List qf))(i:Int):Option (Option (List qf)):=fN l i fun x=>I { x with aq:=E6 }
theorem ji2 {l:Option (List qf)}{i:Int}{r}(h:Vn l i=I r):jy pr (X pr) 189 [sl 8 bp l,Iv i,.fn (.func 200) [] []]=I (sl 8 bp r,Ef):=
 Ei (fun n x y hx hy=>by cases hy;exact⟨_,zct hx,kx⟩) h
theorem zgm {l:List qf}{i:Nat}{x:qf}(hx:l[i]?=I x):zf pr (X pr) 201 [.ptr 0 (i*8)] [.cells (bB bp l)]=I (.aB [],Ef,[.cells (bB bp (l.set i { x with ai:=j6 .i64 (x.ai+1) }))]):=by
 rw[zd (show pr.bj 201=I rA from rfl) (by simp)]
 have st:yh (bB bp l) (i*8+7) [Iv (j6 .i64 (x.ai+1))]=I (bB bp (l.set i { x with ai:=j6 .i64 (x.ai+1) })):=l0 (o:=7) dJ.len hx (En rfl) rfl rfl
 have Wg:y8 (bB bp l) (i*8+7) 1=I [Iv x.ai]:=uF (o:=7) dJ.len hx (by decide)
 simp only[go_sem,seval,rA,st,Wg]<;>rfl
def Vo (l:Option (List qf))(i:Int):Option (Option (List qf)):=fN l i fun x=>I { x with ai:=j6 .i64 (x.ai+1) }
theorem jg2 {l:Option (List qf)}{i:Int}{r}(h:Vo l i=I r):jy pr (X pr) 189 [sl 8 bp l,Iv i,.fn (.func 201) [] []]=I (sl 8 bp r,Ef):=
 Ei (fun n x y hx hy=>by cases hy;exact⟨_,zgm hx,kx⟩) h
theorem za8 {l:List qf}{i:Nat}{x:qf}{v:Int}(hx:l[i]?=I x):zf pr (X pr) 195 [.ptr 0 (i*8),.ah (Iv v)] [.cells (bB bp l)]=I (.aB [],Ef,[.cells (bB bp (l.set i { x with version:=v }))]):=by
 rw[zd (show pr.bj 195=I rC from rfl) (by simp)]
 have st:yh (bB bp l) (i*8+2) [Iv v]=I (bB bp (l.set i { x with version:=v })):=l0 (o:=2) dJ.len hx (En rfl) rfl rfl
 simp only[go_sem,seval,rC,st]<;>rfl
def Vm (l:Option (List qf))(i:Int)(v:Int):Option (Option (List qf)):=fN l i fun x=>I { x with version:=v }
theorem jja {l:Option (List qf)}{i:Int}{v:Int}{r}(h:Vm l i v=I r):jy pr (X pr) 189 [sl 8 bp l,Iv i,.fn (.func 195) [] [.ah (Iv v)]]=I (sl 8 bp r,Ef):=
 Ei (fun n x y hx hy=>by cases hy;exact⟨_,za8 hx,kx⟩) h
theorem zft {l:List qf}{i:Nat}{x:qf}{b:qf}(hx:l[i]?=I x):zf pr (X pr) 196 [.ptr 0 (i*8),.ah (bp b)] [.cells (bB bp l)]=I (.aB [],Ef,[.cells (bB bp (l.set i { x with partner:=b.name }))]):=by
 rw[zd (show pr.bj 196=I rD from rfl) (by simp)]
 have st:yh (bB bp l) (i*8+5) [.str b.name]=I (bB bp (l.set i { x with partner:=b.name })):=l0 (o:=5) dJ.len hx (En rfl) rfl rfl
 simp only[go_sem,seval,rD,st,bp]<;>rfl
def uL (l:Option (List qf))(i:Int)(b:qf):Option (Option (List qf)):=fN l i fun x=>I { x with partner:=b.name }
theorem jf6 {l:Option (List qf)}{i:Int}{b:qf}{r}(h:uL l i b=I r):jy pr (X pr) 189 [sl 8 bp l,Iv i,.fn (.func 196) [] [.ah (bp b)]]=I (sl 8 bp r,Ef):=
 Ei (fun n x y hx hy=>by cases hy;exact⟨_,zft hx,kx⟩) h
theorem zfn {l:List qf}{i:Nat}{x:qf}{b:qf}(hx:l[i]?=I x):zf pr (X pr) 197 [.ptr 0 (i*8),.ah (bp b)] [.cells (bB bp l)]=I (.aB [],Ef,[.cells (bB bp (l.set i { x with partner:=b.name }))]):=by
 rw[zd (show pr.bj 197=I rE from rfl) (by simp)]
 have st:yh (bB bp l) (i*8+5) [.str b.name]=I (bB bp (l.set i { x with partner:=b.name })):=l0 (o:=5) dJ.len hx (En rfl) rfl rfl
 simp only[go_sem,seval,rE,st,bp]<;>rfl
def uM (l:Option (List qf))(i:Int)(b:qf):Option (Option (List qf)):=fN l i fun x=>I { x with partner:=b.name }
theorem jfp {l:Option (List qf)}{i:Int}{b:qf}{r}(h:uM l i b=I r):jy pr (X pr) 189 [sl 8 bp l,Iv i,.fn (.func 197) [] [.ah (bp b)]]=I (sl 8 bp r,Ef):=
 Ei (fun n x y hx hy=>by cases hy;exact⟨_,zfn hx,kx⟩) h
theorem zcz {l:List qk}{i:Nat}{x:qk}{v:Int}(hx:l[i]?=I x):zf pr (X pr) 186 [.ptr 0 (i*5),.ah (Iv v)] [.cells (bB z7 l)]=I (.aB [],Ef,[.cells (bB z7 (l.set i { x with left:=j6 .i64 (x.left-v) }))]):=by
 rw[zd (show pr.bj 186=I rF from rfl) (by simp)]
 have st:yh (bB z7 l) (i*5+3) [Iv (j6 .i64 (x.left-v))]=I (bB z7 (l.set i { x with left:=j6 .i64 (x.left-v) })):=l0 (o:=3) fO.len hx (En rfl) rfl rfl
 have Wg:y8 (bB z7 l) (i*5+3) 1=I [Iv x.left]:=uF (o:=3) fO.len hx (by decide)
 simp only[go_sem,seval,rF,st,Wg]<;>rfl
def Vq (l:Option (List qk))(i:Int)(v:Int):Option (Option (List qk)):=fN l i fun x=>I { x with left:=j6 .i64 (x.left-v) }
theorem jjf {l:Option (List qk)}{i:Int}{v:Int}{r}(h:Vq l i v=I r):jy pr (X pr) 185 [sl 5 z7 l,Iv i,.fn (.func 186) [] [.ah (Iv v)]]=I (sl 5 z7 r,Ef):=
 Wf (fun n x y hx hy=>by cases hy;exact⟨_,zcz hx,kx⟩) h
theorem zdh {l:List qm}{i:Nat}{x:qm}{b:qm}(hx:l[i]?=I x):zf pr (X pr) 238 [.ptr 0 (i*2),.ah (aS b)] [.cells (bB aS l)]=I (.aB [],Ef,[.cells (bB aS (l.set i b))]):=by
 rw[zd (show pr.bj 238=I rG from rfl) (by simp)]
 have st:yh (bB aS l) (i*2) [.str b.k,Iv b.n]=I (bB aS (l.set i b)):=l0 (o:=0) oG.len hx (En rfl) rfl rfl
 simp only[go_sem,seval,rG,st,aS]<;>rfl
def jsb (l:Option (List qm))(i:Int)(b:qm):Option (Option (List qm)):=fN l i fun x=>I b
theorem jdv {l:Option (List qm)}{i:Int}{b:qm}{r}(h:jsb l i b=I r):jy pr (X pr) 237 [sl 2 aS l,Iv i,.fn (.func 238) [] [.ah (aS b)]]=I (sl 2 aS r,Ef):=
 j3e (fun n x y hx hy=>by cases hy;exact⟨_,zdh hx,kx⟩) h
theorem zdk {l:List qj}{i:Nat}{x:qj}{b:qj}(hx:l[i]?=I x):zf pr (X pr) 242 [.ptr 0 (i*3),.ah (zz b)] [.cells (bB zz l)]=I (.aB [],Ef,[.cells (bB zz (l.set i b))]):=by
 rw[zd (show pr.bj 242=I rH from rfl) (by simp)]
 have st:yh (bB zz l) (i*3) [.str b.k,Iv b.a,Iv b.b]=I (bB zz (l.set i b)):=l0 (o:=0) qX.len hx (En rfl) rfl rfl
 simp only[go_sem,seval,rH,st,zz]<;>rfl
def jsw (l:Option (List qj))(i:Int)(b:qj):Option (Option (List qj)):=fN l i fun x=>I b
theorem jfr {l:Option (List qj)}{i:Int}{b:qj}{r}(h:jsw l i b=I r):jy pr (X pr) 241 [sl 3 zz l,Iv i,.fn (.func 242) [] [.ah (zz b)]]=I (sl 3 zz r,Ef):=
 j0f (fun n x y hx hy=>by cases hy;exact⟨_,zdk hx,kx⟩) h
theorem zhd {l:List qm}{i:Nat}{x:qm}{b:qm}(hx:l[i]?=I x):zf pr (X pr) 249 [.ptr 0 (i*2),.ah (aS b)] [.cells (bB aS l)]=I (.aB [],Ef,[.cells (bB aS (l.set i b))]):=by
 rw[zd (show pr.bj 249=I rJ from rfl) (by simp)]
 have st:yh (bB aS l) (i*2) [.str b.k,Iv b.n]=I (bB aS (l.set i b)):=l0 (o:=0) oG.len hx (En rfl) rfl rfl
 simp only[go_sem,seval,rJ,st,aS]<;>rfl
def jq8 (l:Option (List qm))(i:Int)(b:qm):Option (Option (List qm)):=fN l i fun x=>I b
theorem jif {l:Option (List qm)}{i:Int}{b:qm}{r}(h:jq8 l i b=I r):jy pr (X pr) 248 [sl 2 aS l,Iv i,.fn (.func 249) [] [.ah (aS b)]]=I (sl 2 aS r,Ef):=
 j5t (fun n x y hx hy=>by cases hy;exact⟨_,zhd hx,kx⟩) h
end Go.Z
namespace Go.Z
open Go Go.Abs Go.W
def f167 (a0:qm)(a1:List UInt8):Option Bool:=
 I (decide (a0.k=a1))
theorem Wh (hp:j8){a0:qm}{a1:List UInt8}{r}(h:f167 a0 a1=I r):zf pr (X pr) 167 [aN a0,.ah (.str a1)] hp=I (.bool r,Ef,hp):=by
 unfold f167 at h
 have hr:decide (a0.k=a1)=r:=I.inj h
 subst hr
 rw[zd (show pr.bj 167=I rK from rfl) (by simp)]
 simp only[go_sem,seval,rK]<;>rfl
def NL (a0:Option (List qm))(ar:List UInt8)(s0:Int):Option (Int⊕(Int⊕Int)):=
 cond (decide (s0<((a0.getD []).length:Int)))
  (jw (zo (a0.getD []) s0) fun dG=>
  jw (f167 dG ar) fun dv=>
  cond dv
   (I (.inr (.inl s0)))
   (I (.inl (j6 .i64 (s0+1)))))
  (I (.inr (.inr s0)))
def HK (a0:Option (List qm))(ar:List UInt8)(hp:j8)(s0:Int):qg:=⟨[(0,sl 2 aS a0,Ef),(1,.fn (.func 167) [] [.ah (.str ar)],Ef),(7,Lv a0,Ef),(8,Iv s0,Ef)],hp⟩
def HL (a0:Option (List qm))(ar:List UInt8)(hp:j8):Int⊕Int→qo×qg
 | .inl d=>(.ret,⟨[(4,Iv d,Ef)],hp⟩)
 | .inr d=>(.exit 0,⟨[(0,sl 2 aS a0,Ef),(1,.fn (.func 167) [] [.ah (.str ar)],Ef),(7,Lv a0,Ef),(8,Iv d,Ef),(9,.bool Ef,Ef)],hp⟩)
theorem jmq (a0:Option (List qm))(ar:List UInt8)(hp:j8)(s0:Int)(r)(h:NL a0 ar s0=I r):yp pr lO (HK a0 ar hp) (HL a0 ar hp) s0 r:=by
 unfold NL at h
 repeat' first|(replace h:=jx h;obtain⟨d,g,h⟩:=h;with_reducible first|replace g:=Wh hp g|skip)|(replace h:=jz h;rcases h with⟨g,h⟩|⟨g,h⟩)|fail
 all_goals (cases h<;>(first|(refine zw ?_;simp only[go_sem,seval,lO,HK,zn,HL, *]<;>rfl)|(refine yj ?_;simp only[go_sem,seval,lO,HK,zn,HL, *]<;>rfl)))
theorem jnm (a0:Option (List qm))(ar:List UInt8)(hp:j8){s0:Int}{d}(h:bf (NL a0 ar) s0=I d):X pr (.loop lO) (HK a0 ar hp s0)=I (HL a0 ar hp d):=y7 (jmq a0 ar hp) (fun d=>by rcases d with d|d<;>(intro hh;cases hh)) h
def G5 (a0:Option (List qm))(ar:List UInt8):Option Int:=
 jw (bf (NL a0 ar) 0) fun d19=>match d19 with
  | .inl d21=>
   I d21
  | .inr d22=>
   I (-1)
theorem j6t (hp:j8){a0:Option (List qm)}{ar:List UInt8}{r}(h:G5 a0 ar=I r):zf pr (X pr) 235 [sl 2 aS a0,.fn (.func 167) [] [.ah (.str ar)]] hp=I (Iv r,Ef,hp):=by
 unfold G5 at h
 rw[zd (show pr.bj 235=I iq from rfl) (by simp)]
 repeat' first|(replace h:=jx h;obtain⟨d,g,h⟩:=h;with_reducible first|(replace g:=jnm a0 ar hp g;rcases d with d|d<;>dsimp only[HK,HL,y9]at g h)|skip)|(replace h:=jz h;rcases h with⟨g,h⟩|⟨g,h⟩)|fail
 all_goals (cases h<;>(simp only[go_sem,seval,iq, *]<;>rfl))
def NM (a0:Option (List qm))(ar:List UInt8)(s0:Int):Option (Int⊕(Int⊕Int)):=
 cond (decide (s0<((a0.getD []).length:Int)))
  (jw (zo (a0.getD []) s0) fun dG=>
  jw (f167 dG ar) fun dv=>
  cond dv
   (I (.inr (.inl s0)))
   (I (.inl (j6 .i64 (s0+1)))))
  (I (.inr (.inr s0)))
def HM (a0:Option (List qm))(ar:List UInt8)(s0:Int):qg:=⟨[(0,sl 2 aS a0,Ef),(1,.fn (.func 167) [] [.ah (.str ar)],Ef),(7,Lv a0,Ef),(8,Iv s0,Ef)],[]⟩
def HN (a0:Option (List qm))(ar:List UInt8):Int⊕Int→qo×qg
 | .inl d=>(.ret,⟨[(4,Iv d,Ef)],[]⟩)
 | .inr d=>(.exit 0,⟨[(0,sl 2 aS a0,Ef),(1,.fn (.func 167) [] [.ah (.str ar)],Ef),(7,Lv a0,Ef),(8,Iv d,Ef),(9,.bool Ef,Ef)],[]⟩)
theorem jms (a0:Option (List qm))(ar:List UInt8)(s0:Int)(r)(h:NM a0 ar s0=I r):yp pr lO (HM a0 ar) (HN a0 ar) s0 r:=by
 unfold NM at h
 repeat' first|(replace h:=jx h;obtain⟨d,g,h⟩:=h;with_reducible first|replace g:=Wh [] g|skip)|(replace h:=jz h;rcases h with⟨g,h⟩|⟨g,h⟩)|fail
 all_goals (cases h<;>(first|(refine zw ?_;simp only[go_sem,seval,lO,HM,zn,HN, *]<;>rfl)|(refine yj ?_;simp only[go_sem,seval,lO,HM,zn,HN, *]<;>rfl)))
theorem jmt (a0:Option (List qm))(ar:List UInt8){s0:Int}{d}(h:bf (NM a0 ar) s0=I d):X pr (.loop lO) (HM a0 ar s0)=I (HN a0 ar d):=y7 (jms a0 ar) (fun d=>by rcases d with d|d<;>(intro hh;cases hh)) h
def G2 (a0:Option (List qm))(ar:List UInt8):Option Int:=
 jw (bf (NM a0 ar) 0) fun d19=>match d19 with
  | .inl d21=>
   I d21
  | .inr d22=>
   I (-1)
theorem jwh {a0:Option (List qm)}{ar:List UInt8}{r}(h:G2 a0 ar=I r):jy pr (X pr) 235 [sl 2 aS a0,.fn (.func 167) [] [.ah (.str ar)]]=I (Iv r,Ef):=by
 unfold G2 at h
 refine y6 iq ?_
 repeat' first|(replace h:=jx h;obtain⟨d,g,h⟩:=h;with_reducible first|(replace g:=jmt a0 ar g;rcases d with d|d<;>dsimp only[HM,HN,y9]at g h)|skip)|(replace h:=jz h;rcases h with⟨g,h⟩|⟨g,h⟩)|fail
 all_goals (cases h<;>(simp only[go_sem,seval,iq, *];exact⟨_,rfl⟩))
def G4 (a0:Option (List qm))(ar:List UInt8):Option Bool:=
 jw (G5 a0 ar) fun v1=>
 I (decide (0≤v1))
theorem j1r {a0:Option (List qm)}{ar:List UInt8}{r}(h:G4 a0 ar=I r):jy pr (X pr) 168 [sl 2 aS a0,.fn (.func 167) [] [.ah (.str ar)]]=I (.bool r,Ef):=by
 unfold G4 at h
 refine y6 kH ?_
 repeat' first|(replace h:=jx h;obtain⟨d,g,h⟩:=h;with_reducible first|replace g:=j6t [] g|skip)|(replace h:=jz h;rcases h with⟨g,h⟩|⟨g,h⟩)|fail
 all_goals (cases h<;>(simp only[go_sem,seval,kH, *];exact⟨_,rfl⟩))
def f184 (a0:qm)(a1:qk):Option Bool:=
 I (decide (a0.k=a1.kind))
theorem zbb (hp:j8){a0:qm}{a1:qk}{r}(h:f184 a0 a1=I r):zf pr (X pr) 184 [aN a0,.ah (aL a1)] hp=I (.bool r,Ef,hp):=by
 unfold f184 at h
 have hr:decide (a0.k=a1.kind)=r:=I.inj h
 subst hr
 rw[zd (show pr.bj 184=I rL from rfl) (by simp)]
 simp only[go_sem,seval,rL]<;>rfl
def NN (a0:Option (List qm))(ar:qk)(s0:Int):Option (Int⊕(Int⊕Int)):=
 cond (decide (s0<((a0.getD []).length:Int)))
  (jw (zo (a0.getD []) s0) fun dG=>
  jw (f184 dG ar) fun dv=>
  cond dv
   (I (.inr (.inl s0)))
   (I (.inl (j6 .i64 (s0+1)))))
  (I (.inr (.inr s0)))
def HO (a0:Option (List qm))(ar:qk)(hp:j8)(s0:Int):qg:=⟨[(0,sl 2 aS a0,Ef),(1,.fn (.func 184) [] [.ah (aL ar)],Ef),(7,Lv a0,Ef),(8,Iv s0,Ef)],hp⟩
def HP (a0:Option (List qm))(ar:qk)(hp:j8):Int⊕Int→qo×qg
 | .inl d=>(.ret,⟨[(4,Iv d,Ef)],hp⟩)
 | .inr d=>(.exit 0,⟨[(0,sl 2 aS a0,Ef),(1,.fn (.func 184) [] [.ah (aL ar)],Ef),(7,Lv a0,Ef),(8,Iv d,Ef),(9,.bool Ef,Ef)],hp⟩)
theorem jlg (a0:Option (List qm))(ar:qk)(hp:j8)(s0:Int)(r)(h:NN a0 ar s0=I r):yp pr lO (HO a0 ar hp) (HP a0 ar hp) s0 r:=by
 unfold NN at h
 repeat' first|(replace h:=jx h;obtain⟨d,g,h⟩:=h;with_reducible first|replace g:=zbb hp g|skip)|(replace h:=jz h;rcases h with⟨g,h⟩|⟨g,h⟩)|fail
 all_goals (cases h<;>(first|(refine zw ?_;simp only[go_sem,seval,lO,HO,zn,HP, *]<;>rfl)|(refine yj ?_;simp only[go_sem,seval,lO,HO,zn,HP, *]<;>rfl)))
theorem jk3 (a0:Option (List qm))(ar:qk)(hp:j8){s0:Int}{d}(h:bf (NN a0 ar) s0=I d):X pr (.loop lO) (HO a0 ar hp s0)=I (HP a0 ar hp d):=y7 (jlg a0 ar hp) (fun d=>by rcases d with d|d<;>(intro hh;cases hh)) h
def G7 (a0:Option (List qm))(ar:qk):Option Int:=
 jw (bf (NN a0 ar) 0) fun d19=>match d19 with
  | .inl d21=>
   I d21
  | .inr d22=>
   I (-1)
theorem j3c (hp:j8){a0:Option (List qm)}{ar:qk}{r}(h:G7 a0 ar=I r):zf pr (X pr) 235 [sl 2 aS a0,.fn (.func 184) [] [.ah (aL ar)]] hp=I (Iv r,Ef,hp):=by
 unfold G7 at h
 rw[zd (show pr.bj 235=I iq from rfl) (by simp)]
 repeat' first|(replace h:=jx h;obtain⟨d,g,h⟩:=h;with_reducible first|(replace g:=jk3 a0 ar hp g;rcases d with d|d<;>dsimp only[HO,HP,y9]at g h)|skip)|(replace h:=jz h;rcases h with⟨g,h⟩|⟨g,h⟩)|fail
 all_goals (cases h<;>(simp only[go_sem,seval,iq, *]<;>rfl))
def G6 (a0:Option (List qm))(ar:qk):Option Bool:=
 jw (G7 a0 ar) fun v1=>
 I (decide (0≤v1))
theorem jzf {a0:Option (List qm)}{ar:qk}{r}(h:G6 a0 ar=I r):jy pr (X pr) 168 [sl 2 aS a0,.fn (.func 184) [] [.ah (aL ar)]]=I (.bool r,Ef):=by
 unfold G6 at h
 refine y6 kH ?_
 repeat' first|(replace h:=jx h;obtain⟨d,g,h⟩:=h;with_reducible first|replace g:=j3c [] g|skip)|(replace h:=jz h;rcases h with⟨g,h⟩|⟨g,h⟩)|fail
 all_goals (cases h<;>(simp only[go_sem,seval,kH, *];exact⟨_,rfl⟩))
def f172 (a0:qm)(lP:List UInt8):Option Bool:=
 jw (f167 a0 lP) fun v1=>
 I (!v1)
theorem zhe (hp:j8){a0:qm}{lP:List UInt8}{r}(h:f172 a0 lP=I r):zf pr (X pr) 172 [aN a0,.ah (.fn (.func 167) [] [.ah (.str lP)])] hp=I (.bool r,Ef,hp):=by
 unfold f172 at h
 obtain⟨v1,h2,h⟩:=jx h
 have rM:zf pr (X pr) 167 [aN a0,.ah (.str lP)] hp=I (.bool v1,Ef,hp):=Wh hp h2
 have hr:(!v1)=r:=I.inj h
 subst hr
 rw[zd (show pr.bj 172=I rN from rfl) (by simp)]
 simp only[go_sem,seval,rN,rM]<;>rfl
def G3 (a0:Option (List qm))(bP:List UInt8)(s0:(Option (List qm))×Int×Bool):Option (((Option (List qm))×Int×Bool)⊕(((Option (List qm))×Bool×Int))):=
 cond (decide (s0.2.1<((a0.getD []).length:Int)))
  (jw (zo (a0.getD []) s0.2.1) fun v20=>
  jw (f172 v20 bP) fun ej=>
  cond ej
   (cond s0.2.2
    (jw (bh s0.1 [v20]) fun fC=>
    I (.inl (fC,j6 .i64 (s0.2.1+1),E6)))
    (cond s0.1.isNone
     (jw (bh s0.1 [v20]) fun hO=>
     I (.inl (hO,j6 .i64 (s0.2.1+1),E6)))
     (E3)))
   (I (.inl (s0.1,j6 .i64 (s0.2.1+1),s0.2.2))))
  (I (.inr (s0.1,s0.2.2,s0.2.1)))
def HQ (a0:Option (List qm))(bP:List UInt8)(hp:j8)(s0:(Option (List qm))×Int×Bool):qg:=⟨[(1,.fn (.func 172) [] [.ah (.fn (.func 167) [] [.ah (.str bP)])],Ef),(5,sl 2 aS s0.1,s0.2.2),(8,sl 2 aS a0,Ef),(9,Lv a0,Ef),(10,Iv s0.2.1,Ef)],hp⟩
def HR (a0:Option (List qm))(bP:List UInt8)(hp:j8)(d:((Option (List qm))×Bool×Int)):qo×qg:=(.exit 0,⟨[(1,.fn (.func 172) [] [.ah (.fn (.func 167) [] [.ah (.str bP)])],Ef),(5,sl 2 aS d.1,d.2.1),(8,sl 2 aS a0,Ef),(9,Lv a0,Ef),(10,Iv d.2.2,Ef),(11,.bool Ef,Ef)],hp⟩)
theorem jux (a0:Option (List qm))(bP:List UInt8)(hp:j8)(s0:(Option (List qm))×Int×Bool)(r)(h:G3 a0 bP s0=I r):yp pr HS (HQ a0 bP hp) (HR a0 bP hp) s0 r:=by
 unfold G3 at h
 repeat' first|(replace h:=jx h;obtain⟨d,g,h⟩:=h;with_reducible first|replace g:=zhe hp g|replace g:=vH g|skip)|(replace h:=jz h;rcases h with⟨g,h⟩|⟨g,h⟩)|fail
 all_goals (cases h<;>(first|(refine zw ?_;simp only[go_sem,seval,HS,HQ,zn,HR, *]<;>rfl)|(refine yj ?_;simp only[go_sem,seval,HS,HQ,zn,HR, *]<;>rfl)))
theorem jrw (a0:Option (List qm))(bP:List UInt8)(hp:j8){s0:(Option (List qm))×Int×Bool}{d}(h:bf (G3 a0 bP) s0=I d):X pr (.loop HS) (HQ a0 bP hp s0)=I (HR a0 bP hp d):=y7 (jux a0 bP hp) (fun d hh=>by cases hh) h
def f171 (a0:Option (List qm))(bP:List UInt8):Option ((Option (List qm))×Bool):=
 jw (bf (G3 a0 bP) (E3,0,Ef)) fun d31=>
 I (d31.1,d31.2.1)
theorem zda (hp:j8){a0:Option (List qm)}{bP:List UInt8}{r}(h:f171 a0 bP=I r):zf pr (X pr) 171 [sl 2 aS a0,.fn (.func 172) [] [.ah (.fn (.func 167) [] [.ah (.str bP)])]] hp=I (sl 2 aS r.1,r.2,hp):=by
 unfold f171 at h
 rw[zd (show pr.bj 171=I rO from rfl) (by simp)]
 repeat' first|(replace h:=jx h;obtain⟨d,g,h⟩:=h;with_reducible first|(replace g:=jrw a0 bP hp g;dsimp only[HQ,HR,y9]at g h)|skip)|(replace h:=jz h;rcases h with⟨g,h⟩|⟨g,h⟩)|fail
 all_goals (cases h<;>(simp only[go_sem,seval,rO, *]<;>rfl))
def f173 (a0:Option (List qm))(a1:qm)(dr:List UInt8):Option ((Option (List qm))×Bool):=
 jw (G2 a0 dr) fun v1=>
 cond (decide (0≤v1))
  (jw (jsb a0 v1 a1) fun v4=>
  I (v4,Ef))
  (jw (f239 a0 a1) fun v6=>
  I (v6,E6))
theorem zbw {a0:Option (List qm)}{a1:qm}{dr:List UInt8}{r}(h:f173 a0 a1 dr=I r):jy pr (X pr) 173 [sl 2 aS a0,aN a1,.fn (.func 167) [] [.ah (.str dr)]]=I (sl 2 aS r.1,r.2):=by
 unfold f173 at h
 refine fk rP ?_
 repeat' first|(replace h:=jx h;obtain⟨d,g,h⟩:=h; (with_reducible first|replace g:=jwh g|replace g:=jdv g|replace g:=zdf g|skip);try dsimp only[y9,lF,Gz,kr,qae,z7,zr,bp,ya,vev,aS,zz,dp,aE,aR,aU,aL,aP,aD]at g)|(replace h:=jz h;rcases h with⟨g,h⟩|⟨g,h⟩)|fail
 all_goals (cases h<;>(simp only[go_sem,seval,rP, *];exact⟨_,rfl⟩))
def f174 (a0:qj)(a1:qj):Option Bool:=
 I (decide (a0.k=a1.k))
theorem zfe (hp:j8){a0:qj}{a1:qj}{r}(h:f174 a0 a1=I r):zf pr (X pr) 174 [aT a0,.ah (aT a1)] hp=I (.bool r,Ef,hp):=by
 unfold f174 at h
 have hr:decide (a0.k=a1.k)=r:=I.inj h
 subst hr
 rw[zd (show pr.bj 174=I rQ from rfl) (by simp)]
 simp only[go_sem,seval,rQ]<;>rfl
def NP (a0:Option (List qj))(ar:qj)(s0:Int):Option (Int⊕(Int⊕Int)):=
 cond (decide (s0<((a0.getD []).length:Int)))
  (jw (zo (a0.getD []) s0) fun dG=>
  jw (f174 dG ar) fun dv=>
  cond dv
   (I (.inr (.inl s0)))
   (I (.inl (j6 .i64 (s0+1)))))
  (I (.inr (.inr s0)))
def HT (a0:Option (List qj))(ar:qj)(s0:Int):qg:=⟨[(0,sl 3 zz a0,Ef),(1,.fn (.func 174) [] [.ah (aT ar)],Ef),(7,Lv a0,Ef),(8,Iv s0,Ef)],[]⟩
def HU (a0:Option (List qj))(ar:qj):Int⊕Int→qo×qg
 | .inl d=>(.ret,⟨[(4,Iv d,Ef)],[]⟩)
 | .inr d=>(.exit 0,⟨[(0,sl 3 zz a0,Ef),(1,.fn (.func 174) [] [.ah (aT ar)],Ef),(7,Lv a0,Ef),(8,Iv d,Ef),(9,.bool Ef,Ef)],[]⟩)
theorem jkw (a0:Option (List qj))(ar:qj)(s0:Int)(r)(h:NP a0 ar s0=I r):yp pr vX (HT a0 ar) (HU a0 ar) s0 r:=by
 unfold NP at h
 repeat' first|(replace h:=jx h;obtain⟨d,g,h⟩:=h;with_reducible first|replace g:=zfe [] g|skip)|(replace h:=jz h;rcases h with⟨g,h⟩|⟨g,h⟩)|fail
 all_goals (cases h<;>(first|(refine zw ?_;simp only[go_sem,seval,vX,HT,zn,HU, *]<;>rfl)|(refine yj ?_;simp only[go_sem,seval,vX,HT,zn,HU, *]<;>rfl)))
theorem jkz (a0:Option (List qj))(ar:qj){s0:Int}{d}(h:bf (NP a0 ar) s0=I d):X pr (.loop vX) (HT a0 ar s0)=I (HU a0 ar d):=y7 (jkw a0 ar) (fun d=>by rcases d with d|d<;>(intro hh;cases hh)) h
def xJ (a0:Option (List qj))(ar:qj):Option Int:=
 jw (bf (NP a0 ar) 0) fun d19=>match d19 with
  | .inl d21=>
   I d21
  | .inr d22=>
   I (-1)
theorem jjt {a0:Option (List qj)}{ar:qj}{r}(h:xJ a0 ar=I r):jy pr (X pr) 240 [sl 3 zz a0,.fn (.func 174) [] [.ah (aT ar)]]=I (Iv r,Ef):=by
 unfold xJ at h
 refine y6 nf ?_
 repeat' first|(replace h:=jx h;obtain⟨d,g,h⟩:=h;with_reducible first|(replace g:=jkz a0 ar g;rcases d with d|d<;>dsimp only[HT,HU,y9]at g h)|skip)|(replace h:=jz h;rcases h with⟨g,h⟩|⟨g,h⟩)|fail
 all_goals (cases h<;>(simp only[go_sem,seval,nf, *];exact⟨_,rfl⟩))
def G8 (a0:Option (List qj))(ar:qj):Option Bool:=
 jw (xJ a0 ar) fun v1=>
 I (decide (0≤v1))
theorem jzz {a0:Option (List qj)}{ar:qj}{r}(h:G8 a0 ar=I r):jy pr (X pr) 175 [sl 3 zz a0,.fn (.func 174) [] [.ah (aT ar)]]=I (.bool r,Ef):=by
 unfold G8 at h
 refine y6 ng ?_
 repeat' first|(replace h:=jx h;obtain⟨d,g,h⟩:=h;with_reducible first|replace g:=jjt g|skip)|(replace h:=jz h;rcases h with⟨g,h⟩|⟨g,h⟩)|fail
 all_goals (cases h<;>(simp only[go_sem,seval,ng, *];exact⟨_,rfl⟩))
def f177 (a0:Option (List qj))(a1:qj)(dr:qj):Option ((Option (List qj))×Bool):=
 jw (xJ a0 dr) fun v1=>
 cond (decide (0≤v1))
  (jw (jsw a0 v1 a1) fun v4=>
  I (v4,Ef))
  (jw (f243 a0 a1) fun v6=>
  I (v6,E6))
theorem zbo {a0:Option (List qj)}{a1:qj}{dr:qj}{r}(h:f177 a0 a1 dr=I r):jy pr (X pr) 177 [sl 3 zz a0,aT a1,.fn (.func 174) [] [.ah (aT dr)]]=I (sl 3 zz r.1,r.2):=by
 unfold f177 at h
 refine fk rR ?_
 repeat' first|(replace h:=jx h;obtain⟨d,g,h⟩:=h; (with_reducible first|replace g:=jjt g|replace g:=jfr g|replace g:=zdd g|skip);try dsimp only[y9,lF,Gz,kr,qae,z7,zr,bp,ya,vev,aS,zz,dp,aE,aR,aU,aL,aP,aD]at g)|(replace h:=jz h;rcases h with⟨g,h⟩|⟨g,h⟩)|fail
 all_goals (cases h<;>(simp only[go_sem,seval,rR, *];exact⟨_,rfl⟩))
def f192 (a0:qj)(a1:ql):Option Bool:=
 jw (zo (a1.names.getD []) 1) fun v1=>
 I (decide (a0.k=v1))
theorem zap (hp:j8){a0:qj}{a1:ql}{r}(h:f192 a0 a1=I r):zf pr (X pr) 192 [aT a0,.ah (aE a1)] hp=I (.bool r,Ef,hp):=by
 unfold f192 at h
 obtain⟨v1,h2,h⟩:=jx h
 have hr:decide (a0.k=v1)=r:=I.inj h
 subst hr
 rw[zd (show pr.bj 192=I rS from rfl) (by simp)]
 simp only[go_sem,seval,rS,kc h2]<;>rfl
def Hd (a0:Option (List qj))(ar:ql)(s0:Int):Option (Int⊕(Int⊕Int)):=
 cond (decide (s0<((a0.getD []).length:Int)))
  (jw (zo (a0.getD []) s0) fun dG=>
  jw (f192 dG ar) fun dv=>
  cond dv
   (I (.inr (.inl s0)))
   (I (.inl (j6 .i64 (s0+1)))))
  (I (.inr (.inr s0)))
def HW (a0:Option (List qj))(ar:ql)(s0:Int):qg:=⟨[(0,sl 3 zz a0,Ef),(1,.fn (.func 192) [] [.ah (aE ar)],Ef),(7,Lv a0,Ef),(8,Iv s0,Ef)],[]⟩
def HX (a0:Option (List qj))(ar:ql):Int⊕Int→qo×qg
 | .inl d=>(.ret,⟨[(4,Iv d,Ef)],[]⟩)
 | .inr d=>(.exit 0,⟨[(0,sl 3 zz a0,Ef),(1,.fn (.func 192) [] [.ah (aE ar)],Ef),(7,Lv a0,Ef),(8,Iv d,Ef),(9,.bool Ef,Ef)],[]⟩)
theorem jlu (a0:Option (List qj))(ar:ql)(s0:Int)(r)(h:Hd a0 ar s0=I r):yp pr vX (HW a0 ar) (HX a0 ar) s0 r:=by
 unfold Hd at h
 repeat' first|(replace h:=jx h;obtain⟨d,g,h⟩:=h;with_reducible first|replace g:=zap [] g|skip)|(replace h:=jz h;rcases h with⟨g,h⟩|⟨g,h⟩)|fail
 all_goals (cases h<;>(first|(refine zw ?_;simp only[go_sem,seval,vX,HW,zn,HX, *]<;>rfl)|(refine yj ?_;simp only[go_sem,seval,vX,HW,zn,HX, *]<;>rfl)))
theorem jnb (a0:Option (List qj))(ar:ql){s0:Int}{d}(h:bf (Hd a0 ar) s0=I d):X pr (.loop vX) (HW a0 ar s0)=I (HX a0 ar d):=y7 (jlu a0 ar) (fun d=>by rcases d with d|d<;>(intro hh;cases hh)) h
def Hc (a0:Option (List qj))(ar:ql):Option Int:=
 jw (bf (Hd a0 ar) 0) fun d19=>match d19 with
  | .inl d21=>
   I d21
  | .inr d22=>
   I (-1)
theorem j2z {a0:Option (List qj)}{ar:ql}{r}(h:Hc a0 ar=I r):jy pr (X pr) 240 [sl 3 zz a0,.fn (.func 192) [] [.ah (aE ar)]]=I (Iv r,Ef):=by
 unfold Hc at h
 refine y6 nf ?_
 repeat' first|(replace h:=jx h;obtain⟨d,g,h⟩:=h;with_reducible first|(replace g:=jnb a0 ar g;rcases d with d|d<;>dsimp only[HW,HX,y9]at g h)|skip)|(replace h:=jz h;rcases h with⟨g,h⟩|⟨g,h⟩)|fail
 all_goals (cases h<;>(simp only[go_sem,seval,nf, *];exact⟨_,rfl⟩))
def G9 (a0:Option (List qj))(ar:ql):Option Bool:=
 jw (Hc a0 ar) fun v1=>
 I (decide (0≤v1))
theorem jya {a0:Option (List qj)}{ar:ql}{r}(h:G9 a0 ar=I r):jy pr (X pr) 175 [sl 3 zz a0,.fn (.func 192) [] [.ah (aE ar)]]=I (.bool r,Ef):=by
 unfold G9 at h
 refine y6 ng ?_
 repeat' first|(replace h:=jx h;obtain⟨d,g,h⟩:=h;with_reducible first|replace g:=j2z g|skip)|(replace h:=jz h;rcases h with⟨g,h⟩|⟨g,h⟩)|fail
 all_goals (cases h<;>(simp only[go_sem,seval,ng, *];exact⟨_,rfl⟩))
def f187 (a0:qm)(a1:qk):Option Bool:=
 I (decide (a0.k=a1.name))
theorem zig (hp:j8){a0:qm}{a1:qk}{r}(h:f187 a0 a1=I r):zf pr (X pr) 187 [aN a0,.ah (aL a1)] hp=I (.bool r,Ef,hp):=by
 unfold f187 at h
 have hr:decide (a0.k=a1.name)=r:=I.inj h
 subst hr
 rw[zd (show pr.bj 187=I rT from rfl) (by simp)]
 simp only[go_sem,seval,rT]<;>rfl
def NQ (a0:Option (List qm))(ar:qk)(s0:Int):Option (Int⊕(Int⊕Int)):=
 cond (decide (s0<((a0.getD []).length:Int)))
  (jw (zo (a0.getD []) s0) fun dG=>
  jw (f187 dG ar) fun dv=>
  cond dv
   (I (.inr (.inl s0)))
   (I (.inl (j6 .i64 (s0+1)))))
  (I (.inr (.inr s0)))
def HY (a0:Option (List qm))(ar:qk)(s0:Int):qg:=⟨[(0,sl 2 aS a0,Ef),(1,.fn (.func 187) [] [.ah (aL ar)],Ef),(7,Lv a0,Ef),(8,Iv s0,Ef)],[]⟩
def HZ (a0:Option (List qm))(ar:qk):Int⊕Int→qo×qg
 | .inl d=>(.ret,⟨[(4,Iv d,Ef)],[]⟩)
 | .inr d=>(.exit 0,⟨[(0,sl 2 aS a0,Ef),(1,.fn (.func 187) [] [.ah (aL ar)],Ef),(7,Lv a0,Ef),(8,Iv d,Ef),(9,.bool Ef,Ef)],[]⟩)
theorem jsn (a0:Option (List qm))(ar:qk)(s0:Int)(r)(h:NQ a0 ar s0=I r):yp pr H0 (HY a0 ar) (HZ a0 ar) s0 r:=by
 unfold NQ at h
 repeat' first|(replace h:=jx h;obtain⟨d,g,h⟩:=h;with_reducible first|replace g:=zig [] g|skip)|(replace h:=jz h;rcases h with⟨g,h⟩|⟨g,h⟩)|fail
 all_goals (cases h<;>(first|(refine zw ?_;simp only[go_sem,seval,H0,HY,zn,HZ, *]<;>rfl)|(refine yj ?_;simp only[go_sem,seval,H0,HY,zn,HZ, *]<;>rfl)))
theorem jtn (a0:Option (List qm))(ar:qk){s0:Int}{d}(h:bf (NQ a0 ar) s0=I d):X pr (.loop H0) (HY a0 ar s0)=I (HZ a0 ar d):=y7 (jsn a0 ar) (fun d=>by rcases d with d|d<;>(intro hh;cases hh)) h
def f188 (a0:Option (List qm))(ar:qk):Option Int:=
 jw (bf (NQ a0 ar) 0) fun d19=>match d19 with
  | .inl d21=>
   I d21
  | .inr d22=>
   I (-1)
theorem jq3 {a0:Option (List qm)}{ar:qk}{r}(h:f188 a0 ar=I r):jy pr (X pr) 188 [sl 2 aS a0,.fn (.func 187) [] [.ah (aL ar)]]=I (Iv r,Ef):=by
 unfold f188 at h
 refine y6 rU ?_
 repeat' first|(replace h:=jx h;obtain⟨d,g,h⟩:=h;with_reducible first|(replace g:=jtn a0 ar g;rcases d with d|d<;>dsimp only[HY,HZ,y9]at g h)|skip)|(replace h:=jz h;rcases h with⟨g,h⟩|⟨g,h⟩)|fail
 all_goals (cases h<;>(simp only[go_sem,seval,rU, *];exact⟨_,rfl⟩))
def f191 (a0:Option (List qm))(a1:qm)(dr:qk):Option ((Option (List qm))×Bool):=
 jw (f188 a0 dr) fun v1=>
 cond (decide (0≤v1))
  (jw (jq8 a0 v1 a1) fun v4=>
  I (v4,Ef))
  (jw (f250 a0 a1) fun v6=>
  I (v6,E6))
theorem zfu {a0:Option (List qm)}{a1:qm}{dr:qk}{r}(h:f191 a0 a1 dr=I r):jy pr (X pr) 191 [sl 2 aS a0,aN a1,.fn (.func 187) [] [.ah (aL dr)]]=I (sl 2 aS r.1,r.2):=by
 unfold f191 at h
 refine fk rV ?_
 repeat' first|(replace h:=jx h;obtain⟨d,g,h⟩:=h; (with_reducible first|replace g:=jq3 g|replace g:=jif g|replace g:=zd8 g|skip);try dsimp only[y9,lF,Gz,kr,qae,z7,zr,bp,ya,vev,aS,zz,dp,aE,aR,aU,aL,aP,aD]at g)|(replace h:=jz h;rcases h with⟨g,h⟩|⟨g,h⟩)|fail
 all_goals (cases h<;>(simp only[go_sem,seval,rV, *];exact⟨_,rfl⟩))
end Go.Z
end
