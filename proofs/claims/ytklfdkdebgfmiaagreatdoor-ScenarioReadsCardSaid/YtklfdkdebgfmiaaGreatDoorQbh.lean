/- A part of the proof. -/
import Derived.Test.YtklfdkdebgfmiaaGreatDoorQbg
set_option linter.defProp false
set_option linter.unusedVariables false
set_option linter.unusedSimpArgs false
set_option maxRecDepth 100000
set_option maxHeartbeats 32000000
open Option renaming none->Wr,some->Ws
open Decidable renaming decide->Wt
open Go renaming World->Wu,Value->Wv,Calls->WJ,TypeId->WQ,maxLen->Xe,Ending->X0,Addr->X8
open Bool renaming false->Ww,true->Wz
open Go.RowKit renaming Hid->WA
open Go.Lib renaming itoa->WB,decDigits->WV,split->Xh
open Go.Proofs renaming intOf->WS
open Go.Proofs.Tryz renaming prog->WH
open Go.Value renaming int->WK,string->WM,oneCell'->Xp,slice->Yb,bool->Yc,agg->Ye,pointer->Yf
open Go.Instr renaming lookup->WT
open Go.IntKind renaming i64->Xr
open Go.Ending renaming returned->Xz
open Go.Operand renaming tmp->Yg,const->Yh
namespace Go.Proofs.YtklfdkdebgfmiaaGreatDoor
section
open Go Go.RowKit Go.Proofs.Tryz
def kN (p:PS) (out:List au):Except (Nat×Nat) (List au):=
 if p.head.kind=0 then .ok out
 else
  let q:PS×List au:=if out.length=1024 then(p.fail p.beyond,out) else(p.decl.1,out++[p.decl.2])
  if q.1.e≠0 then .error (q.1.head.pos,q.1.e)
  else if ar:q.1.ts.length<p.ts.length then kN q.1 q.2 else .ok q.2
termination_by p.ts.length
def lC (s:ak):Except (Nat×Nat) (List au):=
 match nC s with
 | .error e=> .error e
 | .ok ts=>kN ⟨ts,0,{}⟩ []
def BY (s:ak) (k:Nat):Nat:=1+(s.take k).count 10
def yx (line:ak):Option (List Int×Int):=
 let c:=Lib.cut (line.drop 8) gl
 if c.2.2 then(bL (bs c.2.1)).bind λn=>(dU ((Xh c.1 [44,32]).map bs)).map λl=>(l,n) else Wr
def gz:Nat->List aP->List ak->Except (Nat×Nat) (List aP)
 |_,acc,[]=> .ok acc
 |k,acc,s::r=>
  if s=[]\/s.head?=Ws 35 then gz (k+1) acc r
  else match km (cW (bs s)) with
   |none=> .error (k,3)
   |some a=>if acc.length=1024 then .error (k,8) else gz (k+1) (acc++[a]) r
def bB (t:ak):List ak:=let l:=Xh t [10];if l.getLast?=Ws [] then l.dropLast else l
def ox (t:ak):Except (Nat×Nat) lB:=
 if 65536<t.length then .error (0,8)
 else match (bB t).findIdx? (λs=>tV.isPrefixOf s) with
  |none=> .error ((bB t).length+1,3)
  |some i=>match lC (aE ((bB t).take i)) with
   | .error x=> .error (BY (aE ((bB t).take i)) x.1,x.2)
   | .ok ds=>match nE ds with
     | .error x=> .error (0,x.2)
     | .ok m=>match yx ((bB t).getD i []) with
       |none=> .error (i+1,3)
       |some c=>match gz (i+2) [] ((bB t).drop (i+1)) with
        | .error x=> .error x
        | .ok acts=>if ii ⟨m,c.1,c.2,acts⟩ then .ok ⟨m,c.1,c.2,acts⟩ else .error (i+1,1)
def aj4 (s:ak):bV s=s.drop (s.length - (bV s).length):=by
 have g: ∀s:ak,bV s<:+s:=by
  intro s
  fun_induction bV s with
  |case1 s h=>exact List.nil_suffix
  |case2 s r h ih=>exact ih.trans ((List.dropWhile_suffix _).trans (((List.suffix_cons 35 r).trans (h▸List.dropWhile_suffix ig))))
  |case3 s c r h hc=>exact h▸List.dropWhile_suffix ig
 exact(List.suffix_iff_eq_drop.1 (g s))
def Ym {s:ak} {k:Nat} {t:ak} {n:Nat} (h:tok s= .ok (k,t,n)):1<=t.length/\t.length<=s.length/\(k<=4/\n<=1048576):=by
 have tw (p:UInt8->Bool) (c:UInt8) (r:ak) (z:p c=Wz):1<=((c::r).takeWhile p).length:=by rw[List.takeWhile_cons,if_pos z];simp
 cases s with
 |nil=>cases h
 |cons c r=>
  rw[tok] at h;split at h
  .rename_i y;unfold Aj at h;dsimp only at h;have A:cX c=true:=by simp[cX,y]
   split at h
   .cases h
   .split at h<;>(simp only[Except.ok.injEq,Prod.mk.injEq] at h;obtain⟨rfl,rfl,rfl⟩:=h;exact⟨tw _ _ _ A,Mo _ _,by omega,by omega⟩)
  .split at h
   .rename_i j;unfold yK at h;dsimp only at h;split at h
    .cases h
    .split at h
     .cases h
     .rename_i m hm;simp only[Except.ok.injEq,Prod.mk.injEq] at h;obtain⟨rfl,rfl,rfl⟩:=h;refine⟨tw _ _ _ j,Mo _ _,by omega,?_⟩;have big: ∀(l:ak) (a m:Nat),a<=1048576->mr a l=some m->m<=1048576:=by
       intro l;induction l with
       |nil=>intro a m g h;rw[mr] at h;injection h with h;omega
       |cons c l ih=>
        intro a m g h;rw[ac8] at h;split at h
        .cases h
        .exact ih _ _ Yi h
      exact big _ 0 m Yi hm
   .split at h
    .simp only[Except.ok.injEq,Prod.mk.injEq] at h;obtain⟨rfl,rfl,rfl⟩:=h;simp
    .cases h
def aj5 {s:ak} {x:Nat} (h:tok s= .error x):x=8\/x=3\/x=2:=by
 cases s with
 |nil=>rw[tok] at h;injection h with h;omega
 |cons c r=>
  rw[tok] at h;split at h
  .unfold Aj at h;dsimp only at h;split at h
   .injection h with h;omega
   .split at h<;>cases h
  .split at h
   .unfold yK at h;dsimp only at h;split at h
    .injection h with h;omega
    .split at h
     .injection h with h;omega
     .cases h
   .split at h
    .cases h
    .injection h with h;omega
def Qv (t:e_):List Value:=[WK Xr t.kind,WM (bs t.text),WK Xr t.n,WK Xr t.pos]
def I5 (l:List e_):List Value:=(l.map Qv).flatten
def aj6 (l:List e_) (t:e_):I5 (l++[t])=I5 l++Qv t:=by simp[I5]
def ed8 {w:Wu} {base:Nat} {e:WQ} {v:Wv} {l:List e_} (h:w.ownsRow base e 4 v l.length (I5 l)):bW 4 mW w w v l:=
 bW.of_own (l.map Qv) (λr c=>by obtain⟨t,_,rfl⟩:=List.mem_map.1 c;rfl) Yl h (λj r x c hx=>by rw[WN,hx] at c;injection c with c;exact c.symm)
def Yn (w:Wu) (r:Except (Nat×Nat) (List e_)) (e:X0) (w':Wu):Prop:=
 Below w w w'/\match r with
  | .error x=>e=Xz (.tuple #[Yb Wr 0 0,x.1,x.2])
  | .ok l=> ∃v,e=Xz (.tuple #[v,WK Xr 0,WK Xr 0])/\bW 4 mW w' w' v l
def ed9:(Tryz.prog.info? 100).map (λi=>(i.zero,i.size,i.bytes))=Ws (Ws (Ye #[WK Xr 0,WM ⟨#[]⟩,WK Xr 0,WK Xr 0]),4,40):=aC
def aj7 (s:ByteArray) (w:Wu) (hG:fD w):WJ WH 38 #[s] w (Yn w (nC s.data.toList)):=by
 by_cases I:16384<s.size
 .have g:nC s.data.toList= .error (0,8):=by unfold nC;rw[if_pos (by rw[j5];exact I)]
  rw[g];have h1:(16384:Int)<s.size:=Yi;clear g I;go_enter func38,ntmps38;go_wp2_with fail
  go_ret3
  exact⟨af w,rfl⟩
 .have hs:s.size<=16384:=by omega
  have h1: ¬(16384:Int)<s.size:=Yi;have HR:Hid (nC s.data.toList=gJ s.size (bV s.data.toList)):=by show nC _=_;unfold nC;rw[if_neg (by rw[j5];omega),j5]
  have HG:=aa hG;have HS:=aa (λW=>ag5 s W hs);obtain⟨i0,hi,cJ,ba,bd⟩:=XU ed9;have O:(bV s.data.toList).length<=s.size:=by have:=Db s.data.toList;rw[j5] at this;exact this
  have HD:Hid (bV s.data.toList=s.data.toList.drop (s.size - (bV s.data.toList).length)):=by have:=aj4 s.data.toList;rw[j5] at this;exact this
  obtain⟨m,hm⟩: ∃m,s.size - (bV s.data.toList).length=m:=⟨_,rfl⟩;have fp:m<=s.size:=Yi;rw[hm] at HD;have Th:Hid (∀W,aQ 114 #[s] W (WK Xr m)):=λW=>by
   have:=HS.out W
   rwa [hm] at this
  clear I hG O hm HS;go_enter func38,ntmps38;go_wp2_with(go_at_call 114;refine(Th.out _).m ?_;rintro e w1 ⟨rfl,ap⟩)
  go_loopw [5,6] (λv i wr=> ∃(k:Nat) (l:List e_),k<=s.size/\i=WK Xr k/\l.length<=k/\gJ s.size (bV s.data.toList)=(gJ s.size (s.data.toList.drop k)).map (l++ ·)/\wr.ownsRow w.heap.size 100 4 v l.length (I5 l)/\Below w w wr) (λ_ i _=>s.size - (WS i).toNat)
  case atStart=>refine⟨m,[],fp,rfl,bU _,?_,WX _ _ _ _,ap⟩;rw[HD.out];cases gJ s.size (s.data.toList.drop m)<;>simp[Except.map]
  case round=>
   obtain⟨k,l,hk,rfl,fJ,LD,bA,hB⟩:=hrel;have vP:=aa LD;clear LD;by_cases ar:k<s.size
   .have dz:(0:Int)<=k:=by omega
    have bJ:(k:Int)<s.size:=Yi;have Eo:(k:Int)<=s.size:=Yi;have X:(s.extract k s.size).size=s.size - k:=zj;have A:=aa (dt0 (s.extract k s.size) wr (HG.out.step hB) Yi Yi);rw[YC] at A;clear X;cases ht:tok (s.data.toList.drop k) with
    |error x=>
     rw[ht] at A;have U:=aa (aj5 ht);have J:Hid (nC s.data.toList= .error (k,x)):=by
      show _=_;rw[HR.out,vP.out];have Y:=List.drop_eq_getElem_cons (l:=s.data.toList) (i:=k) (by rw[j5];exact ar);rw[Y] at ht⊢
      rw[gJ,ht];simp only[Except.map];congr 2;simp[j5];omega
     clear ht;go_wp2_with fail
     refine A.out.m ?_;rintro e w2 ⟨G,g⟩;simp only at g;subst g;have aO:((x:Int)!=0)=true:=by have:=U.out;simp;omega
     unfold jx;go_wp2_with fail
     go_ret3
     rw[J.out];exact⟨ae (ai hB G) _,rfl⟩
    |ok y=>
     obtain⟨kd,t,nn⟩:=y;rw[ht] at A;obtain⟨uM,lP,eV,dQ⟩:=Ym ht;rw[Xc,j5] at lP;have g:gJ s.size (s.data.toList.drop k)=(gJ s.size (bV (s.data.toList.drop (k+t.length)))).map (⟨kd,t,nn,k⟩:: ·):=by
      have Y:=List.drop_eq_getElem_cons (l:=s.data.toList) (i:=k) (by rw[j5];exact ar);rw[Y] at ht⊢
      rw[gJ,ht];simp only
      have e1:(s.data.toList.drop (k+1)).drop (t.length - 1)=s.data.toList.drop (k+t.length):=by rw[List.drop_drop];congr 1;omega
      have e2:s.size - ((s.data.toList.drop (k+1)).length+1)=k:=by rw[Xc,j5];omega
      rw[e1,e2]
     have Z:=Db (s.data.toList.drop (k+t.length));rw[Xc,j5] at Z;have C:=aj4 (s.data.toList.drop (k+t.length));rw[Xc,j5,List.drop_drop] at C;obtain⟨q,hq⟩: ∃q,t.length=q:=⟨_,rfl⟩;have hT:(bs t).size=q:=by rw[kJ];exact hq
     have HQ:Hid (∀W,aQ 114 #[WM (s.extract (k+q) s.size)] W (WK Xr ((s.size - (k+q) - (bV (s.data.toList.drop (k+q))).length:Nat):Int))):=λW=>by have:=ag5 (s.extract (k+q) s.size) W zj;rw[YC,X1,Nat.min_self] at this;exact this
     rw[hq] at uM lP g Z C;obtain⟨d,cj5⟩: ∃d,s.size - (k+q) - (bV (s.data.toList.drop (k+q))).length=d:=⟨_,rfl⟩;rw[cj5] at HQ C;have ws:k+q+d<=s.size:=Yi;have HN:Hid (gJ s.size (bV s.data.toList)=(gJ s.size (s.data.toList.drop (k+q+d))).map (l++[⟨kd,t,nn,k⟩]++ ·)):=by show _=_;rw[vP.out,g,C];cases gJ s.size (s.data.toList.drop (k+q+d))<;>simp[Except.map]
     have F:Hid (Qv ⟨kd,t,nn,k⟩=[WK Xr kd,WM (bs t),WK Xr nn,WK Xr k]):=rfl;obtain⟨T,Ew⟩: ∃T,bs t=T:=⟨_,rfl⟩;have rR:Hid (aQ 115 #[WM (s.extract k s.size)] wr (.tuple #[Ye #[kd,WM T,nn,WK Xr 0],WK Xr 0])):=
      A.out.mono λe w' ⟨hb,he⟩=>⟨by rw[<-Ew];exact he,hb⟩
     rw[Ew] at hT F;clear ht g Z C cj5 hq Ew A;go_wp2_with fail
     refine rR.out.m ?_;rintro e w2 ⟨rfl,G⟩;have aV:=ai hB G;have z:=aa (fS bA G);clear bA
     go_wp2_with(first
      |(at_builtin;refine wpList_append_own _ rfl (.tmp 31) (.tmp 33) _ rfl w.heap.size 100 i0 _ 4 40 underlying91 hi cJ ba bd rfl (by decide) _ _ _ rfl ((z.out.alloc _).alloc _) ⟨w2.heap.size+1,0,none⟩ 1 1 [.int .i64 kd,.string T,.int .i64 nn,.int .i64 k] rfl rfl (mw (by simp)) (by simp[Value.oneCell']) (by simp[maxLen];omega) (by omega) (bo aV.size (by simp;omega)) ?_;intro v' w3 V D _
        have fU:=iY (js (bQ w2 _) (ae (af _) _) Yl) D (λj hj=>by have:=(WL z.out j hj).2;omega);have t1:=ah (o:=1) fU rfl;have ik:=wS ((z.out.alloc _).alloc _) (ae (ae aV _) _) (ag _) D;clear D fU)
      |(go_at_call 114;refine(HQ.out _).m ?_;rintro e w4 ⟨rfl,aS⟩))
     refine⟨⟨k+q+d,l++[⟨kd,t,nn,k⟩],by omega,by go_num,by simp;omega,HN.out,?_,ai ik aS⟩,by simp[WS];omega⟩;have:=fS V aS;rw[WG,aj6,F.out];exact this
   .have kV:k=s.size:=by omega
    have gx1:=aa kV;have J:Hid (nC s.data.toList= .ok (l++[⟨0,[],0,s.size⟩])):=by show _=_;rw[HR.out,vP.out,kV,List.drop_of_length_le (by rw[j5];omega),gJ];rfl
    have z:=aa bA;clear kV bA;go_wp2_with(at_builtin;refine Xu _ rfl (Yg 46) (Yg 50) _ rfl w.heap.size 100 i0 _ 4 40 underlying91 hi cJ ba bd rfl az _ _ _ rfl (z.out.alloc _) (wr 0 Wr) 1 1 [WK Xr 0,WM ⟨#[]⟩,WK Xr 0,WK Xr s.size] rfl rfl (mw rfl) ti ul Yi (bo hB.size Yl) ?_;intro v' w3 V D _)
    go_ret3
    rw[J.out];refine⟨wS (z.out.alloc _) (ae hB _) (ag _) D,_,rfl,?_⟩;have hw:w3.ownsRow w.heap.size 100 4 v' (l++[⟨0,[],0,s.size⟩]:List e_).length (I5 (l++[⟨0,[],0,s.size⟩])):=by rw[WG,aj6];exact V
    exact ed8 hw
def ee0 (s:ByteArray) (k:Nat) (w:Wu) (Y:s.size<=1000000):
 WJ WH 18 #[s,k] w λe w'=> ∃c:Int,e=Xz (.tuple #[WK Xr (BY s.data.toList k),c])/\w=w':=by
 have C: ∀(t:ByteArray) W,WJ WH 43 #[t,WM {data:= #[10]}] W λe w'=>e=Xz (WK Xr (Lib.countByte t.data.toList 10))/\w'=W:=λt W=>strings_Count_one t 10 W;have I:=aa C;clear C;obtain⟨m,hm⟩: ∃m,min k s.size=m:=⟨_,rfl⟩;have V:m<=s.size:=Yi;have U:m<=k:=Yi;have F:(s.extract 0 m).data.toList=s.data.toList.take k:=by
  have h:=j5 s;have e:(s.extract 0 m).data.toList=s.data.toList.take m:=by simp[ByteArray.data_extract]
  rw[e,<-hm];rcases Nat.le_total k s.size with z|z
  .rw[Nat.min_eq_left z]
  .rw[Nat.min_eq_right z,WY Yi,WY Yi]
 have G:(s.extract 0 m).size=m:=zj;have y:(List.count 10 (s.data.toList.take k))<=1000000:=by have:=List.count_le_length (a:=(10:UInt8)) (l:=s.data.toList.take k);rw[XW,j5] at this;omega
 have g:Hid (Lib.countByte (s.extract 0 m).data.toList 10=List.count 10 (s.data.toList.take k)):=by show _=_;rw[F];rfl
 have D:BY s.data.toList k=1+List.count 10 (s.data.toList.take k):=rfl;rw[D];obtain⟨n,hn⟩: ∃n,List.count 10 (s.data.toList.take k)=n:=⟨_,rfl⟩;rw[hn] at g y⊢
 obtain⟨T,Ew⟩: ∃T,s.extract 0 m=T:=⟨_,rfl⟩;have J:=aa Ew;rw[Ew] at g G;have O:=aa (λW=>strings_LastIndexByte T 10 (by rw[G];omega) W);have j:Hid (min k s.size=m):=hm;have Z:(0:Int)<=n:=Yi;have X:(n:Int)<=1000000:=Yi;clear F hn Ew D hm;go_enter func18,ntmps18;go_wp2_with fail
 have A:s.extract 0 (min (k:Int) (s.size:Int)).toNat=T:=by rw[<-J.out,<-j.out];congr 1;omega
 rw[A];refine(I.out T _).m ?_;rintro e w1 ⟨rfl,rfl⟩;rw[g.out];clear A;go_wp2_with(go_at_call 44;refine(O.out _).m ?_;rintro e w2 ⟨rfl,rfl⟩)
 go_ret2
 exact⟨_,rfl,rfl⟩
def I7 (w:Wu) (pb B M:Nat) (q:PS×Bool) (e:X0) (w':Wu):Prop:=e=Xz (Yc q.2)/\bZ w' pb B M q.1/\aF w.heap.size pb w w'/\ko pb w w'
def MW {p:PS} (h:p.e≠0\/p.head.kind≠4\/p.head.text≠[44]):p.comma=(p,Ww):=by unfold PS.comma;rw[if_pos h]
def ah5 {p:PS} (h: ¬(p.e≠0\/p.head.kind≠4\/p.head.text≠[44])):p.comma=((p.take 4 []).1,Wz):=by unfold PS.comma;rw[if_neg h]
def ah6 {l k:ak} (h:l=k):((bs l).toList==k)=true:=by subst h;rw[jr,gI];exact beq_self_eq_true l
def ah7 {l k:ak} (h:l≠k):((bs l).toList==k)=false:=by
 cases hc:((bs l).toList==k) with
 |false=>rfl
 |true=>have:=eq_of_beq hc;exact absurd (by rwa [jr,gI] at this) h
def Yp (pb B M:Nat) (p:PS) (w:Wu) (h:bZ w pb B M p):
 WJ WH 284 #[aj pb] w (I7 w pb B M p.comma):=by
 refine Qw λHP HN=> ?_;have HT:=aa (λW (hW:bZ W pb B M p)=>Ay pb B M p W 4 4 [] (Yb Wr 0 0) rfl hW az (bG.nil_ _ _));obtain⟨tv,r,n,h1,h2,h3,h4,h5,h6,h7⟩:=id h;obtain⟨t,ts,nX,hh,zN⟩:=h7.cons;rw[hh] at HN;unfold aj at HN HT;rw[oy] at HN;have jz:=blk_lt h1;have H1:=aa h1;have g:=aa hh;clear h h1 h2 h3 h4 h7 hh nX zN;by_cases he:p.e=0
 .have j:((p.e:Int)!=0)=false:=by simp;omega
  by_cases hk:t.kind=4
  .have z:((t.kind:Int)!=4)=false:=by simp;omega
   by_cases c:t.text=[44]
   .have y:((bs t.text).toList==[44])=true:=ah6 c;have HC:Hid (p.comma=((p.take 4 []).1,true)):=ah5 (by rw[g.out];simp[he,hk,c])
    clear he hk c;simp only[aj];go_enter func284,ntmps284;go_wp2_with first
     |(go_at_call 39;refine(HN.out _ HP.out).m ?_;rintro e w1 ⟨rfl,ap⟩;have oG:=aq H1.out ap;refine Fp λp1 ye=> ?_;have bf:=aa ap;clear oG ap)
     |(go_at_call 121;refine(HT.out _ ((HP.out.later bf.out).later (ae (af w1) _))).mono ?_;unfold rq;rintro e w2 ⟨rfl,eh,d',iQ⟩;have gZ:=aa eh;have gH:=aa d';have uf:=aa iQ;clear eh d' iQ)
    go_ret;rw[HC.out];exact⟨rfl,gZ.out,((aF.of_below bf.out (ag _) bf.out.size).alloc (ag _) _).trans (gH.out.mono (by have:=bf.out.size;simp;omega)),((ko.of_below bf.out jz).trans (ko.of_below (ae (af w1) _) ye)).trans uf.out⟩
   .have y:((bs t.text).toList==[44])=false:=ah7 c;have HC:Hid (p.comma=(p,Ww)):=MW (.inr (.inr (by rw[g.out];exact c)));exact Yq
  .have z:((t.kind:Int)!=4)=true:=by simp;omega
   have HC:Hid (p.comma=(p,Ww)):=MW (.inr (.inl (by rw[g.out];exact hk)));exact Yq
 .have j:((p.e:Int)!=0)=true:=by simp;omega
  have HC:Hid (p.comma=(p,Ww)):=MW (.inl he);exact Yq
end
section
open Go Go.RowKit Go.MapKept Go.Proofs.Tryz
def Az {s:ByteArray}:IsKey .string (.string s):=trivial
def wX (l:List (ak×Int)):List (Wv×Wv):=l.map λx=>(WM (bs x.1),WK .i64 x.2)
def Fq {l:List (ak×Int)} {k:ak} (h:k∉l.map (·.1)): ∀p∈wX l,IsKey .string p.1/\p.1≠ .string (bs k):=λp c=>by obtain⟨x,hx,rfl⟩:=List.mem_map.1 c;refine⟨Az,λe=>h ?_⟩;injection e with e;exact List.mem_map.2 ⟨x,hx,LS e⟩
def aq1: ∀{l:List (ak×Int)},(l.map (·.1)).Nodup->∀{x y:ak×Int},x∈l->y∈l->x.1=y.1->x=y
 |[],_,_,_,h,_,_=>by simp at h
 |a::l,hn,x,y,hx,j,e=>by
  rw[WO,List.nodup_cons] at hn;rcases List.mem_cons.1 hx with rfl|g<;>rcases List.mem_cons.1 j with rfl|c
  .rfl
  .exact absurd (List.mem_map.2 ⟨y,c,e.symm⟩) hn.1
  .exact absurd (List.mem_map.2 ⟨x,g,e⟩) hn.1
  .exact aq1 hn.2 g c e
def aq2 {w:Wu} {b:Nat} {l:List (ak×Int)} (g:(l.map (·.1)).Nodup) (h:fF w b (wX l)) (s:ak):
 (WT 221 (.map (Ws b)) (WM (bs s)) Ww).run WH w= .ok (WK Xr ((l.lookup s).getD 0)) w:=by
 by_cases c:s∈l.map (·.1)
 .obtain⟨x,hx,rfl⟩:=List.mem_map.1 c;have j:l.lookup x.1=some x.2:=by
   clear h c;induction l with
   |nil=>simp at hx
   |cons a l ih=>
    simp at g;rcases List.mem_cons.1 hx with rfl|hx
    .simp[List.lookup]
    .have:(x.1==a.1)=false:=by
      rw[beq_eq_false_iff_ne];intro e;exact g.1 x.2 (by rw[<-e];exact hx)
     simp[List.lookup,this];exact ih g.2 hx
  have:=L8 underlying221 Xw h (key:=WM (bs x.1)) (v:=WK Xr x.2) Ww Az (λp A=>by
   obtain⟨y,hy,rfl⟩:=List.mem_map.1 A;exact Az) (λp A e=>by
   obtain⟨y,hy,rfl⟩:=List.mem_map.1 A;injection e with e;have e:=LS e;have:=aq1 g hx hy e.symm;rw[this]) ⟨_,List.mem_map.2 ⟨x,hx,rfl⟩,rfl⟩
  rw[this,j];rfl
 .have j:l.lookup s=none:=by
   clear h g;induction l with
   |nil=>rfl
   |cons a l ih=>simp only[WO,Xj,not_or] at c;have:(s==a.1)=false:=beq_eq_false_iff_ne.2 c.1;simp only[List.lookup,this];exact ih c.2
  have:=L9 underlying221 Xw h (key:=WM (bs s)) (z:=WK Xr 0) Ww Az (Fq c) aC;rw[this,j];rfl
def ea3 (s:ak):((([(fe,2),(fq,3),(jB,4)]:List (ak×Int)).lookup s).getD 0)=(iP s:Nat):=by
 unfold iP;by_cases c:s=fe
 .subst c;rfl
 by_cases g:s=fq
 .subst g;rfl
 by_cases h:s=jB
 .subst h;rfl
 have j:=beq_eq_false_iff_ne.2 c;have y:=beq_eq_false_iff_ne.2 g;have z:=beq_eq_false_iff_ne.2 h;simp[List.lookup,j,y,z,c,g,h]
def ea4 (s:ak):iP s<=4:=by unfold iP;split<;>(try split)<;>(try split)<;>omega
def ea5 {p:PS} {M:Nat} (j:p.Ok M) (c:(p.take 2 [fe,fq,jB]).1.Ok M):PS.Ok {(p.take 2 [fe,fq,jB]).1 with d:={(p.take 2 [fe,fq,jB]).1.d with by_:=iP (p.take 2 [fe,fq,jB]).2.text}} M:=by
 refine⟨c.last,c.toks,c.nums,c.e,?_,c.n⟩;have y:=c.toks;have g:=j.toks;by_cases h:p.e≠0\/p.head.kind≠2\/(([fe,fq,jB]:List ak)≠[]/\p.head.text∉[fe,fq,jB])
 .rw[Fo h] at y⊢
  have:iP ([]:ak)=0:=rfl;simp only[this];dsimp only at y⊢
  omega
 .rw[I6 h];have:=ea4 p.head.text;obtain⟨a,l,h1,h2,h3⟩:=j.cons;simp only[h1,List.tail_cons];rw[h1] at g;simp at g;omega
def ea6 (pb B M:Nat) (p:PS) (w:Wu) (h:bZ w pb B M p):
 WJ WH 198 #[aj pb] w (sD w pb B M p.domain):=by
 have I:=h.size;have Vr:=h.ok;have HP:=aa h;have y:=aa (λW v (hW:bZ W pb B M p) (D:bG W W v [fe,fq,jB])=>Ay pb B M p W 2 2 [fe,fq,jB] v rfl hW az D);have j:Hid (p.domain={(p.take 2 [fe,fq,jB]).1 with d:={(p.take 2 [fe,fq,jB]).1.d with by_:=iP (p.take 2 [fe,fq,jB]).2.text}}):=rfl;clear h;have G:=aa (λC=>ea5 (p:=p) (M:=M) Vr C);generalize p.take 2 [fe,fq,jB]=q at y j G;generalize p.domain=p' at j;obtain⟨q,t⟩:=q;have EF:=λa b c d w=>Qx a b c d w;unfold aj at y;simp only[aj];go_enter func198,ntmps198;refine tP λlM=> ?_
 go_wp2_with first
             |(refine wV _ rfl (Yg 3) (Yh (WM ⟨#[114,97,99,107]⟩)) (Yh (WK Xr 2)) 221 (.inr rfl) 9 3 .string underlying221 Xw w.heap.size (wX []) rfl (fF.made w) (WM (bs fe)) (WK Xr 2) rfl rfl Az (Fq az) ?_;intro w1 Z O)
             |(refine wV _ rfl (Yg 3) (Yh (WM ⟨#[102,101,101,100]⟩)) (Yh (WK Xr 3)) 221 (.inr rfl) 9 3 .string underlying221 Xw w.heap.size (wX [(fe,2)]) rfl Z (WM (bs fq)) (WK Xr 3) rfl rfl Az (Fq az) ?_;intro w2 jk U)
             |(refine wV _ rfl (Yg 3) (Yh (WM ⟨#[115,105,116,101]⟩)) (Yh (WK Xr 4)) 221 (.inr rfl) 9 3 .string underlying221 Xw w.heap.size (wX [(fe,2),(fq,3)]) rfl jk (WM (bs jB)) (WK Xr 4) rfl rfl Az (Fq az) ?_;intro w3 jl V;have g:=aa (V.1 _ _ (U.1 _ _ (O.1 _ _ (ae (af w) _) (ag _)) (ag _)) (ag _));have rO:=aa jl;clear Z O jk U jl V)
             |(go_at_call 121;refine(y.out _ _ (HP.out.later (ae g.out _)) (bG.of_new [fe,fq,jB] rfl rfl rfl rfl Yl)).mono ?_;unfold rq;rintro e w4 ⟨rfl,A,z,Y⟩;obtain⟨Bw,qW,c1,c2,c3,c6,c7⟩:=A.cells;have f6:=qW 6;have F:=z.blk (rO.out.later (ae (af w3) _)) (by have:=rO.out.lt;simp;omega) Yi;have fJ:=aq2 (w:=w4) (l:=[(fe,2),(fq,3),(jB,4)]) az F t.text;have gZ:=aa A;have gH:=aa z;have uf:=aa Y;clear A z Y qW F;simp only[oy])
 go_end0
 have X:=gZ.out;have C:p'={q with d:={q.d with by_:=iP t.text}}:=j.out;subst C;have D:((([(fe,2),(fq,3),(jB,4)]:List (ak×Int)).lookup t.text).getD 0)=(iP t.text:Nat):=ea3 t.text;rw[D];have J:PS.Ok {q with d:={q.d with by_:=iP t.text}} M:=G.out X.ok;have hQ:bZ (w4.setCell (pb 6 Wr) (WK Xr (iP t.text:Nat))) pb B M {q with d:={q.d with by_:=iP t.text}}:=X.setD rfl rfl rfl (λ_ _ _=>rfl) J;exact⟨rfl,hQ.more (XR M),λ_=>J,(((aF.of_below g.out I.2 g.out.size).alloc I.2 _).trans (gH.out.mono (by have:=g.out.size;simp;omega))).set (.inl rfl) _⟩
end
section
open Go Go.RowKit Go.Proofs.Tryz
def Zb {p:PS} (h: ¬(p.e=0/\p.head.kind=2/\p.head.text=iD)):p.alw=p:=by unfold PS.alw;rw[if_neg h]
def eb0 {p:PS} (h:p.e=0/\p.head.kind=2/\p.head.text=iD):p.alw={(p.take 2 []).1 with d:={(p.take 2 []).1.d with always:=Wz}}:=by unfold PS.alw;rw[if_pos h]
def eb1 (pb B M:Nat) (p:PS) (w:Wu) (h:bZ w pb B M p):
 WJ WH 197 #[aj pb] w (sD w pb B M p.alw):=by
 have HP:=aa h;have a_:=h.size;have g:=h.ok;have HN:=aa (λW (y:bZ W pb B M p)=>Fm pb B M p W y);have HT:=aa (λW (y:bZ W pb B M p)=>Ay pb B M p W 2 2 [] (Yb Wr 0 0) rfl y az (bG.nil_ _ _));obtain⟨tv,r,n,h1,h2,h3,h4,h5,h6,h7⟩:=id h;obtain⟨t,ts,nX,hh,zN⟩:=h7.cons;rw[hh] at HN;unfold aj at HN HT;rw[oy] at HN;have G:=blk_lt h1;have H1:=aa h1;have j:=aa hh;have vH:=aa g;clear h h1 h2 h3 h4 h7 hh nX zN g;by_cases he:p.e=0
 .have A:((p.e:Int)==0)=true:=by simp;omega
  by_cases hk:t.kind=2
  .have D:((t.kind:Int)==2)=true:=by simp;omega
   by_cases ht:t.text=iD
   .have C:((bs t.text).toList==[97,108,119,97,121,115])=true:=ah6 ht;have HC:Hid (p.alw={(p.take 2 []).1 with d:={(p.take 2 []).1.d with always:=true}}):=eb0 (by rw[j.out];exact⟨he,hk,ht⟩)
    clear he hk ht;simp only[aj];go_enter func197,ntmps197;go_wp2_with first
     |(go_at_call 39;refine(HN.out _ HP.out).m ?_;rintro e w1 ⟨rfl,ap⟩;have oG:=aq H1.out ap;refine Fp λp1 ye=> ?_;have bf:=aa ap;clear oG ap)
     |(go_at_call 121;refine(HT.out _ ((HP.out.later bf.out).later (ae (af w1) _))).mono ?_;unfold rq;rintro e w2 ⟨rfl,eh,d',iQ⟩;obtain⟨kF,cL,c1,c2,c3,c6,c7⟩:=eh.cells;have f7:=cL 7;have gZ:=aa eh;have gH:=aa d';clear eh d' iQ cL)
    go_end0
    rw[HC.out];have c:=gZ.out;have z:PS.Ok {(p.take 2 []).1 with d:={(p.take 2 []).1.d with always:=Wz}} M:=⟨c.ok.last,c.ok.toks,c.ok.nums,c.ok.e,c.ok.by_,c.ok.n⟩;have F:bZ (w2.setCell (pb 7 Wr) (Yc Wz)) pb B M {(p.take 2 []).1 with d:={(p.take 2 []).1.d with always:=Wz}}:=c.setD rfl rfl rfl (λ_ _ _=>rfl) z;exact⟨rfl,F.more (XR M),λ_=>z,(((aF.of_below bf.out a_.2 bf.out.size).alloc a_.2 _).trans (gH.out.mono (by have:=bf.out.size;simp;omega))).set (.inl rfl) _⟩
   .have C:((bs t.text).toList==[97,108,119,97,121,115])=false:=ah7 ht;have HC:Hid (p.alw=p):=Zb (λh=>ht (by rw[<-j.out];exact h.2.2));exact Zc
  .have D:((t.kind:Int)==2)=false:=by simp;omega
   have HC:Hid (p.alw=p):=Zb (λh=>hk (by rw[<-j.out];exact h.2.1));exact Zc
 .have A:((p.e:Int)==0)=false:=by simp;omega
  have HC:Hid (p.alw=p):=Zb (λh=>he h.1);exact Zc
def aq5 {p:PS} (h:p.comma.2=Wz):p.e=0:=by
 by_cases c:p.e≠0\/p.head.kind≠4\/p.head.text≠[44]
 .rw[MW c] at h;cases h
 .apply Classical.byContradiction;intro g;exact c (.inl g)
def eb2 {p:PS} (h:p.comma.2=Ww):p.comma.1=p:=by
 by_cases c:p.e≠0\/p.head.kind≠4\/p.head.text≠[44]
 .rw[MW c]
 .rw[ah5 c] at h;cases h
def eb3 (pb B M:Nat) (p:PS) (w:Wu) (hM:M<=1000000) (h:bZ w pb B M p):
 WJ WH 195 #[aj pb] w (sD w pb B M p.list):=by
 have HP:=aa h;have a_:=h.size;have EF:=λa b c d w=>ah8 a b c d w;have Y:=aa (λW q (hW:bZ W pb B M q)=>aq4 pb B M q W hM hW);have HL:Hid (p.list=PS.listGo 1 p.ref):=rfl;have fI:=PS.ref_le p;have hL:p.ts.length<=M:=by have:=h.ok.toks;omega
 unfold aj at Y;obtain⟨L,KV⟩: ∃L,p.ts.length=L:=⟨_,rfl⟩;rw[KV] at fI hL;clear h KV;simp only[aj];go_enter func195,ntmps195;go_wp2_with(go_at_call 194;refine(Y.out _ p HP.out).mono ?_;unfold sD;rintro e w1 ⟨rfl,Um,Et,ce9⟩)
 go_loopw [2] (λi wr=> ∃(k:Nat) (q:PS),i=WK Xr k/\1<=k/\k+q.ts.length<=L+1/\bZ wr pb B (M+1) q/\(q.e=0->q.Ok M)/\aF B pb w wr/\p.list=PS.listGo k q) (λi _=>L+2 - (WS i).toNat)
 case atStart=>exact⟨1,p.ref,rfl,ag _,by omega,Um,Et,ce9,HL.out⟩
 case round=>
  obtain⟨k,q,rfl,kU,cm1,jG,xH,ph,Bq⟩:=hrel;have NT:=aa Bq;have qH:=aa ph;have NF:=aa jG.size.2;have fY:IntKind.i64.wrap ((k:Int)+1)=(k:Int)+1:=Xf _ Yi;clear Bq ph;cases hb:q.comma.2 with
  |false=>
   have C:=aa (Yp pb B (M+1) q wr jG);have uM:=eb2 hb;rw[show q.comma=(q,Ww) from Prod.ext uM hb] at C;unfold aj at C;have D:Hid (PS.listGo k q=q):=by show _=_;rw[PS.listGo,dif_neg (by rw[hb];simp)];exact uM
   have HO:=aa xH;clear hb uM jG xH;go_wp2_with(go_at_call 284;refine C.out.mono ?_;unfold I7;rintro e w2 ⟨rfl,g,z,_⟩;have j:=aa g;have V:=aa z;clear g z)
   go_end0
   rw[NT.out,D.out];exact⟨rfl,j.out,HO.out,qH.out.trans (V.out.mono NF.out)⟩
  |true=>
   have he:=aq5 hb;have Lz:=jG.okM (xH he);have C:=aa (Yp pb B M q wr Lz);have ar:=PS.comma_lt q hb;have D:Hid (PS.listGo k q=PS.listGo (k+1) (if k=16/\q.comma.1.head.kind=1 then q.comma.1.fail 8 else q.comma.1).ref):=by show _=_;rw[PS.listGo,dif_pos hb]
   obtain⟨c,CL⟩: ∃c,q.comma.1=c:=⟨_,rfl⟩;rw[show q.comma=(c,Wz) from Prod.ext CL hb] at C;rw[CL] at ar D;clear hb jG xH he Lz CL;have X:=aa (λW (hW:bZ W pb B M c)=>Fm pb B M c W hW);have DP:=aa (λW (hW:bZ W pb B M c)=>MU pb B M c W 8 hW Yi);unfold aj at C X DP;rw[oy] at X;by_cases pQ:k=16
   .have OY:((k:Int)==16)=true:=by simp;omega
    by_cases OX:c.head.kind=1
    .have kV:((c.head.kind:Int)==1)=true:=by simp;omega
     rw[if_pos ⟨pQ,OX⟩] at D;have gm1:=PS.fail_ts c 8;clear OX
     go_wp2_with first
                 |(go_at_call 284;refine C.out.mono ?_;unfold I7;rintro e w2 ⟨rfl,g,z,_⟩;have j:=aa g;have V:=aa z;have U:=aa g.size.2;clear g z)
                 |(go_at_call 39;refine(X.out _ j.out).m ?_;rintro e w3 ⟨rfl,y⟩;have A:=aa y;have SF:=aa (bo U.out y.size);clear y)
                 |(go_at_call 40;refine(DP.out _ (j.out.later A.out)).m ?_;rintro e w4 ⟨rfl,F,G,tl⟩;have mL:=aa F;have eN:=aa G;clear F G tl)
                 |(go_at_call 194;refine(Y.out _ (c.fail 8) mL.out).mono ?_;unfold sD;rintro e w5 ⟨rfl,J,I,O⟩;have lm:=aa J;have og:=aa I;have Z:=aa O;clear J I O)
     refine⟨⟨k+1,(c.fail 8).ref,by go_num,by omega,?_,lm.out,og.out,(qH.out.trans (V.out.mono NF.out)).trans ((((aF.of_below A.out (U.out) A.out.size)).trans (eN.out.mono SF.out)).trans Z.out),?_⟩,by simp[WS];omega⟩
     .have:=PS.ref_le (c.fail 8);rw[gm1] at this;omega
     .rw[NT.out,D.out]
    .have kV:((c.head.kind:Int)==1)=false:=by simp;omega
     rw[if_neg (λh=>OX h.2)] at D;clear OX
     go_wp2_with first
                 |(go_at_call 284;refine C.out.mono ?_;unfold I7;rintro e w2 ⟨rfl,g,z,_⟩;have j:=aa g;have V:=aa z;have U:=aa g.size.2;clear g z)
                 |(go_at_call 39;refine(X.out _ j.out).m ?_;rintro e w3 ⟨rfl,y⟩;have A:=aa y;have SF:=aa (bo U.out y.size);clear y)
                 |(go_at_call 40;refine(DP.out _ (j.out.later A.out)).m ?_;rintro e w4 ⟨rfl,F,G,tl⟩;have mL:=aa F;have eN:=aa G;clear F G tl)
                 |(go_at_call 194;refine(Y.out _ c (j.out.later A.out)).mono ?_;unfold sD;rintro e w5 ⟨rfl,J,I,O⟩;have lm:=aa J;have og:=aa I;have Z:=aa O;clear J I O)
     refine⟨⟨k+1,c.ref,by go_num,by omega,?_,lm.out,og.out,(qH.out.trans (V.out.mono NF.out)).trans ((aF.of_below A.out (U.out) A.out.size).trans Z.out),?_⟩,by simp[WS];omega⟩
     .have:=PS.ref_le c;omega
     .rw[NT.out,D.out]
   .have OY:((k:Int)==16)=false:=by simp;omega
    rw[if_neg (λh=>pQ h.1)] at D
    go_wp2_with first
                |(go_at_call 284;refine C.out.mono ?_;unfold I7;rintro e w2 ⟨rfl,g,z,_⟩;have j:=aa g;have V:=aa z;have U:=aa g.size.2;clear g z)
                |(go_at_call 39;refine(X.out _ j.out).m ?_;rintro e w3 ⟨rfl,y⟩;have A:=aa y;have SF:=aa (bo U.out y.size);clear y)
                |(go_at_call 40;refine(DP.out _ (j.out.later A.out)).m ?_;rintro e w4 ⟨rfl,F,G,tl⟩;have mL:=aa F;have eN:=aa G;clear F G tl)
                |(go_at_call 194;refine(Y.out _ c j.out).mono ?_;unfold sD;rintro e w5 ⟨rfl,J,I,O⟩;have lm:=aa J;have og:=aa I;have Z:=aa O;clear J I O)
    refine⟨⟨k+1,c.ref,by go_num,by omega,?_,lm.out,og.out,(qH.out.trans (V.out.mono NF.out)).trans Z.out,?_⟩,by simp[WS];omega⟩
    .have:=PS.ref_le c;omega
    .rw[NT.out,D.out]
def sE (w:Wu) (pb B:Nat) (u:Wv) (x:jZ):Prop:=
 ∃g bnd caps,u= .func (.func g) bnd caps/\dp g/\∀(W:Wu) (B' M:Nat) (p:PS),M<=1000000->aF B pb w W->B<=B'->bZ W pb B' M p->WJ WH g (bnd++caps) W (sD W pb B' M (p.part x))
def sE.keep {w w':Wu} {pb B B₂:Nat} {u:Wv} {x:jZ} (h:sE w pb B u x) (C:aF B pb w w') (y:B<=B₂):sE w' pb B₂ u x:=by obtain⟨g,bnd,caps,h1,h2,h3⟩:=h;exact⟨g,bnd,caps,h1,h2,λW B' M p z A j D=>h3 W B' M p z (C.trans (A.mono y)) (bo y j) D⟩
def MY (w:Wu) (pb B:Nat) (v:Wv) (l:List jZ):Prop:=
 ∃b c,v=Yb (Ws ⟨b,0,Wr⟩) l.length c/\l.length<=c/\c<=Xe/\pb<b/\b<B/\∀(j:Nat) x,l[j]? =Ws x->∃u,w.cell? ⟨b,j,Wr⟩=Ws u/\sE w pb B u x
def aF.cell {B pb:Nat} {w w':Wu} (h:aF B pb w w') {b:Nat} (o:Nat) (c:b<B) (g: ¬b=pb):w'.cell? (b o Wr)=w.cell? (b o Wr):=XN (h.block b c g)
def MY.keep {w w':Wu} {pb B B₂:Nat} {v:Wv} {l:List jZ} (h:MY w pb B v l) (y:aF B pb w w') (g:B<=B₂):MY w' pb B₂ v l:=by obtain⟨b,c,h1,h2,h3,h4,h5,h6⟩:=h;refine⟨b,c,h1,h2,h3,h4,bq h5 g,λj x hx=> ?_⟩;obtain⟨u,h7,h8⟩:=h6 j x hx;exact⟨u,(y.cell j h5 Yi).trans h7,h8.keep y g⟩
def Fs (w:Wu) (pb B:Nat) (v:Wv):Prop:=
 ∃b,v=Yb (Ws ⟨b,0,Wr⟩) 17 17/\pb<b/\b<B/\∀(i:Nat) r,rules[i]? =Ws r->∃pv,w.cell? ⟨b,i*3,Wr⟩=Ws (WM (bs r.1))/\w.cell? ⟨b,i*3+1,Wr⟩=Ws (WK Xr i)/\w.cell? ⟨b,i*3+2,Wr⟩=Ws pv/\MY w pb B pv r.2
def Fs.keep {w w':Wu} {pb B B₂:Nat} {v:Wv} (h:Fs w pb B v) (g:aF B pb w w') (j:B<=B₂):Fs w' pb B₂ v:=by obtain⟨b,h1,h4,h5,h6⟩:=h;refine⟨b,h1,h4,bq h5 j,λi r y=> ?_⟩;obtain⟨pv,h7,h8,h9,d_⟩:=h6 i r y;exact⟨pv,(g.cell _ h5 Yi).trans h7,(g.cell _ h5 Yi).trans h8,(g.cell _ h5 Yi).trans h9,d_.keep g j⟩
def tY (_:Wu) (_:Nat) (cs:List Wv) (r:ak×List jZ):Prop:= ∃k b n c,cs=[WM (bs r.1),WK Xr k,Yb (Ws ⟨b,0,Wr⟩) n c]
def tY.ab:jf tY:=λ_ _ _ _ _ _ _ h _ _ _=>h
def Fs.sl {w:Wu} {pb B:Nat} {v:Wv} (h:Fs w pb B v):bW 3 tY w B v rules:=by
 obtain⟨b,rfl,h4,h5,h6⟩:=h;refine⟨_,17,rfl,by decide,by decide,λ_=>⟨b,0,rfl,h5,λj x hx=> ?_⟩⟩;obtain⟨pv,h7,h8,h9,Pn,pc,rfl,_⟩:=h6 j x hx;refine⟨[WM (bs x.1),WK Xr j,Yb (Ws (Pn 0 Wr)) x.2.length pc],rfl,⟨j,Pn,_,pc,rfl⟩,λi u c=> ?_⟩;rw[XP]
 match i,c with
 |0,c=>simp at c;subst c;exact h7
 |1,c=>simp at c;subst c;exact h8
 |2,c=>simp at c;subst c;exact h9
 |i+3,c=>simp at c
def Ft {g pb:Nat} {x:jZ} (c:dp g) (h: ∀(W:Wu) (B M:Nat) (p:PS),M<=1000000->bZ W pb B M p->WJ WH g #[aj pb] W (sD W pb B M (p.part x))) (w:Wu) (B:Nat):sE w pb B (.func (.func g) #[aj pb] #[]) x:=
 ⟨g,#[aj pb],#[],rfl,c,λW B' M p j _ _ y=>h W B' M p j y⟩
def E9 (w:Wu) (pb B:Nat):sE w pb B (.func (.func 193) #[aj pb] #[]) .name:=Ft (x:= .name) (WD func193 aC rfl) (λW B M p _ c=>ee5 pb B M p W c) w B
def tZ (w:Wu) (pb B:Nat):sE w pb B (.func (.func 194) #[aj pb] #[]) .ref:=Ft (x:= .ref) (WD func194 aC rfl) (λW B M p c g=>aq4 pb B M p W c g) w B
def oR (w:Wu) (pb B:Nat):sE w pb B (.func (.func 192) #[aj pb] #[]) .number:=Ft (x:= .number) (WD func192 aC rfl) (λW B M p c g=>ea9 pb B M p W c g) w B
def Zd (w:Wu) (pb B:Nat):sE w pb B (.func (.func 195) #[aj pb] #[]) .list:=Ft (x:= .list) (WD func195 aC rfl) (λW B M p c g=>eb3 pb B M p W c g) w B
def eb4 (w:Wu) (pb B:Nat):sE w pb B (.func (.func 198) #[aj pb] #[]) .domain:=Ft (x:= .domain) (WD func198 aC rfl) (λW B M p _ c=>ea6 pb B M p W c) w B
def eb5 (w:Wu) (pb B:Nat):sE w pb B (.func (.func 197) #[aj pb] #[]) .alw:=Ft (x:= .alw) (WD func197 aC rfl) (λW B M p _ c=>eb1 pb B M p W c) w B
end
section
open Go Go.RowKit Go.Shelf Go.Lib Go.Proofs.Tryz
def eb6:Go.Shelf.Ren:=⟨fun|10=>285|6=>14|n=>n,fun|0=>0|3=>3|4=>4|22=>23|23=>9|25=>42|n=>n,fun|n=>n⟩
def eb7:Go.Proofs.SlLaysH.n10 WH eb6:={
 mixed:=aC
 f6:=⟨Tryz.f14.name,by decide,Tryz.func14.trans (congrArg Ws aC)⟩
 f10:=⟨Tryz.f285.name,by decide,Tryz.func285.trans (congrArg Ws aC)⟩
 t0:=underlying0
 a0:=Tryz.isAgg0
 z0:=Tryz.sizeOf0
 v0:=zeroValue0
 t3:=WI
 a3:=Tryz.isAgg3
 z3:=Tryz.sizeOf3
 v3:=zeroValue3
 t4:=underlying4
 a4:=Tryz.isAgg4
 z4:=Tryz.sizeOf4
 v4:=zeroValue4
 t22:=X9
 a22:=Tryz.isAgg23
 z22:=Tryz.sizeOf23
 v22:=zeroValue23
 a23:=Tryz.isAgg9
 z23:=Tryz.sizeOf9
 t25:=underlying42
 a25:=Tryz.isAgg42
 z25:=Tryz.sizeOf42
 v25:=zeroValue42}
def t5 (s:ak):Value:=WM (bs s)
def aq6 (x word:ak) (b:Nat) (w:Wu) (h:w.cell? b=Ws (WM (bs word))):
 FnGives WH 286 #[aj b] #[t5 x] (Yc (Wt (x=word))) w:=by
 show WJ WH 286 #[bs x,aj b] w _;have c:((bs x).toList==(bs word).toList)=Wt (x=word):=by rw[jr,jr,gI,gI,WU];simp
 simp only[aj];go_enter func286,ntmps286
 go_wp2
 all_goals (go_ret;exact⟨by simp_all,0,rfl⟩)
def eb8 (l:List ak) (word:ak) (blk cap c:Nat) (w:Wu) (A:Sort.Holds t5 w blk 0 l.toArray) (D:w.cell? c=Ws (WM (bs word))) (F:c<w.heap.size) (I: ¬c=blk) (z:l.length<=cap) (Z:cap<=100):
 WJ WH 285 #[Yb (Ws (blk 0 Wr)) l.length cap,bm 286 #[aj c]] w λe w'=>e=Xz (Yb (Ws (blk 0 Wr)) (l.filter λs=> !Wt (s=word)).length cap)/\
  Sort.Holds t5 w' blk 0 (l.filter λs=> !Wt (s=word)).toArray/\(∀i,¬i=blk->w'.heap[i]? =w.heap[i]?)/\w'.os=w.os/\w'.tape=w.tape/\w'.output=w.output/\w'.heap.size=w.heap.size:=by
 have O: ∀args w,(callFunc 286 args).run WH w= .ok (.enter 286 args) w:=WD func286 aC rfl;have g:=AnyE.slices_DeleteFunc eb7 t5 (λ_=>rfl) (λx=>Wt (x=word)) 286 #[aj c] O [] (λw=>zeroValue9 w) blk 0 cap l.toArray w
  (λW x U=>aq6 x word c W ((U.cell (p:=c) F).trans D))
  (λn os X x _=>aq6 x word c _ (by unfold sortWorld;rw[Sort.cell?_grow _ _ _ (by show c<(Sort.putRow _ _ _ _ _).heap.size;rw[Sort.size_putRow];exact F),Sort.cell?_putRow_other _ _ blk 0 _ _ (Or.inl I)];exact D)) A bI (by simpa using z)
 generalize C:(l.filter λs=> !Wt (s=word))=r;have Y:r.length<=l.length:=by rw[<-C];exact List.length_filter_le _ _
 have J:(l.toArray.toList.filter λx=> !Wt (x=word))=r:=C;rw[J] at g;refine g.m ?_;rintro e w' ⟨rfl,q,rfl⟩;have hold: ∀i,¬i=blk->(Sort.putRow t5 (Sort.ahead w q) blk 0 (r++List.replicate (l.toArray.size - r.length) []).toArray).heap[i]? =w.heap[i]? :=λi V=>by show(w.heap.modify blk _)[i]? =_;rw[Array.getElem?_modify,if_neg (λe=>V e.symm)]
 refine⟨rfl,λj hj=> ?_,hold,rfl,rfl,rfl,by simp[Sort.ahead]⟩;have y:Sort.Holds t5 (Sort.ahead w q) blk 0 l.toArray:=A;have h:=Sort.holds_putRow t5 (Sort.ahead w q) blk 0 l.toArray (r++List.replicate (l.toArray.size - r.length) []).toArray y bI j (by simp at hj⊢;omega);have e:(r++List.replicate (l.toArray.size - r.length) []).toArray[j]! =r.toArray[j]! :=by have G:j<r.length:=Cq;rw[getElem!_pos _ j bI,getElem!_pos _ j hj];simp[List.getElem_append_left G]
 rw[e] at h;exact h
end
section
open Go Go.RowKit Go.Proofs.Tryz
def PS.comma_le (p:PS):p.comma.1.ts.length<=p.ts.length:=by
 unfold PS.comma;split
 .exact ag _
 .exact PS.take_le _ _ _
def PS.listGo_le (n:Nat) (p:PS):(PS.listGo n p).ts.length<=p.ts.length:=by
 fun_induction PS.listGo n p with
 |case1 n p h g=>
  refine bo g (bo (PS.ref_le _) ?_);have:=PS.comma_le p;split
  .rw[PS.fail_ts];exact this
  .exact this
 |case2 n p h=>exact PS.comma_le p
def PS.classGo_le (l:List ak) (p:PS):(PS.classGo l p).ts.length<=p.ts.length:=by
 rw[PS.classGo];split
 .rw[PS.fail_ts];exact ag _
 .have g:=PS.take_le p 2 l;dsimp only;split
  .rename_i h;have j:=PS.comma_lt _ h;have:=PS.classGo_le (l.filter λs=> !Wt (s=(p.take 2 l).2.text)) (PS.comma {(p.take 2 l).1 with d:={(p.take 2 l).1.d with by_:=(p.take 2 l).1.d.by_+fM (p.take 2 l).2.text}}).1;refine bo this (bo (eJ j) g)
  .exact bo (PS.comma_le _) g
termination_by p.ts.length
decreasing_by exact bq j g
def PS.part_le (p:PS) (x:jZ):(p.part x).ts.length<=p.ts.length:=by
 cases x with
 |name=>exact PS.take_le p 1 []
 |ref=>exact PS.ref_le p
 |number=>exact PS.take_le p 3 []
 |list=>exact bo (PS.listGo_le 1 p.ref) (PS.ref_le p)
 |classes=>exact PS.classGo_le _ p
 |domain=>exact PS.take_le p 2 _
 |alw=>
  show p.alw.ts.length<=_;unfold PS.alw;split
  .exact PS.take_le p 2 []
  .exact ag _
 |word s=>exact PS.take_le p 2 [s]
def PS.parts_le: ∀(l:List jZ) (p:PS),(p.parts l).ts.length<=p.ts.length
 |[],p=>ag _
 |x::l,p=>by
  rw[PS.parts];refine bo (PS.parts_le l _) ?_;split
  .exact PS.part_le p x
  .exact ag _
def PS.parts_err: ∀(l:List jZ) (p:PS),p.e≠0->p.parts l=p
 |[],p,_=>rfl
 |x::l,p,h=>by rw[PS.parts,if_neg h];exact PS.parts_err l p h
def PS.take_err {p:PS} {k:Nat} {l:List ak} (h:p.e≠0):(p.take k l).1=p:=by unfold PS.take;rw[if_pos (.inl h)];show p.fail 3=p;unfold PS.fail;rw[if_neg h]
def PS.decl_lt {p:PS} (h:p.decl.1.e=0):p.decl.1.ts.length<p.ts.length:=by
 unfold PS.decl at h⊢
 cases hr:ga p.head with
 |none=>
  rw[hr] at h;simp only at h;unfold PS.fail at h;split at h
  .cases h
  .rename_i z;exact absurd h z
 |some i=>
  rw[hr] at h;simp only at h⊢
  have g:p.head.kind=2:=by
   unfold ga at hr;split at hr
   .assumption
   .cases hr
  refine Nat.lt_of_le_of_lt (PS.take_le _ _ _) (Nat.lt_of_le_of_lt (PS.parts_le _ _) ?_);show((p.take 2 []).1).ts.length<_;by_cases c:p.e=0
  .unfold PS.take;rw[if_neg (by simp[c,g])];cases nX:p.ts with
   |nil=>simp[PS.head,nX] at g
   |cons a l=>simp
  .have j:(p.take 2 []).1=p:=PS.take_err c;rw[j] at h;have y:=PS.parts_err (rules.getD i ([],[])).2 {p with d:={kind:=i}} c;rw[y,PS.take_err (p:={p with d:={kind:=i}}) c] at h;exact absurd h c
def dz8 {p:PS} {out:List au} (g: ¬p.head.kind=0) (h: ¬out.length=1024) (c:p.decl.1.e=0):kN p out=kN p.decl.1 (out++[p.decl.2]):=by rw[kN,if_neg g];simp only[if_neg h];rw[if_neg (by simp[c]),dif_pos (PS.decl_lt c)]
def dz9 {p:PS} {out:List au} (g: ¬p.head.kind=0) (h: ¬out.length=1024) (c: ¬p.decl.1.e=0):kN p out= .error (p.decl.1.head.pos,p.decl.1.e):=by rw[kN,if_neg g];simp only[if_neg h];rw[if_pos c]
def ea0 {p:PS} {out:List au} (h: ¬p.head.kind=0) (j:out.length=1024) (g:p.e=0):kN p out= .error (p.head.pos,p.beyond):=by
 rw[kN,if_neg h];simp only[if_pos j];have c:p.beyond≠0:=by unfold PS.beyond;split<;>decide
 have e:p.fail p.beyond={p with e:=p.beyond}:=by unfold PS.fail;rw[if_pos g]
 rw[e,if_pos c];rfl
def ea1 {p:PS} {out:List au} (c:p.head.kind=0):kN p out= .ok out:=by rw[kN,if_pos c]
end
section
open Go Go.RowKit Go.MapKept Go.Proofs.Tryz
def eh2 (xb:Nat) (k:Nat):Mt xb k=if k=0 then Ws (.func (.func 228) #[] #[aj xb]) else if k=1 then Ws (.func (.func 229) #[] #[aj xb]) else if k=2 then Ws (.func (.func 230) #[] #[aj xb]) else none:=by
 unfold Mt aY;by_cases c:k=0
 .subst c;rfl
 by_cases g:k=1
 .subst g;rfl
 by_cases j:k=2
 .subst j;rfl
 have y: ¬(k:Int)=0:=Yi;have z: ¬(k:Int)=1:=Yi;have A: ¬(k:Int)=2:=Yi;simp[c,g,j,y,z,A]
def eh3 (m:aM) (v:MV) (x:fg) (A:Option X8) (n c:Nat) (w:Wu) (V:m.In w w v) (U: ¬(0<=x.kind/\x.kind<=2)):
 aQ 150 #[Ye (m.cells v),Ye (x.vals (Yb A n c))] w (Yc Ww):=by
 have J:=aa (show Mt (w.heap.size+1) x.kind=Wr from by unfold Mt aY;rw[if_neg Yi,if_neg Yi,if_neg Yi]);refine tP λlM=> ?_;refine ou λnV=> ?_;have Y:=aa (ao2 w);have g:=aa (sF w (m.cells v) (x.vals (Yb A n c)) 30 138);have lN:=λw=>eh1 w;rw[fg.vals_def] at g⊢
 rw[aM.cells_def] at g⊢
 clear V U;go_enter func150,ntmps150;go_wp2_with first
  |(refine ev rfl (Yg 7) (Yh (WK Xr 0)) (Yg 8) 252 (.inr rfl) 3 22 (.int Xr) underlying252 WI co (w.heap.size+1+1) (λ_=>Wr) rfl (Y.out _ _) 0 (.func (.func 228) #[] #[aj (w.heap.size+1)]) rfl rfl ?_;intro w1 F j)
  |(refine ev rfl (Yg 7) (Yh (WK Xr 1)) (Yg 9) 252 (.inr rfl) 3 22 (.int Xr) underlying252 WI co (w.heap.size+1+1) _ rfl F 1 (.func (.func 229) #[] #[aj (w.heap.size+1)]) rfl rfl ?_;intro w2 G y)
  |(refine ev rfl (Yg 7) (Yh (WK Xr 2)) (Yg 10) 252 (.inr rfl) 3 22 (.int Xr) underlying252 WI co (w.heap.size+1+1) _ rfl G 2 (.func (.func 230) #[] #[aj (w.heap.size+1)]) rfl rfl ?_;intro w3 I z;have X:=aa (z.1 _ _ (y.1 _ _ (j.1 _ _ (ae (ae (ae (af w) _) _) _) Yi) Yi) Yi);have O:=aa (λi (C: ¬i=w.heap.size+1+1)=>(z.2.2 i C).trans ((y.2.2 i C).trans (j.2.2 i C)));have D:=(O.out (w.heap.size+1) Yi).trans (js g.out.2 (ae (af _) _) (blk_lt g.out.2));have a1:w3.cell? ⟨w.heap.size+1,1,Wr⟩=Ws (WK Xr x.kind):=ah D rfl;have Z:=aa I;clear F j G y I z D)
  |(at_lookup;refine B3 rfl (.tmp 12) (.tmp 14) 252 false rfl 3 22 (.int .i64) underlying252 underlying3 co (w.heap.size+1+1) _ rfl Z.out x.kind .nilFunc rfl (zeroValue22 _) ?_
    rw[show aY (aY (aY (λ_=>Wr) 0 (Value.func (.func 228) #[] #[aj (w.heap.size+1)])) 1 (.func (.func 229) #[] #[aj (w.heap.size+1)])) 2 (.func (.func 230) #[] #[aj (w.heap.size+1)]) x.kind=Wr from J.out];simp only[Option.getD_none,WW,if_false])
 go_ret;exact⟨rfl,X.out⟩
def eh4 (m:aM) (v:MV) (x:fg) (o:Wv) (w:Wu) (z:m.In w w v) (ho:aW w w o x.on):
 aQ 150 #[Ye (m.cells v),Ye (x.vals o)] w (Yc (dO m x)):=by
 by_cases h:0<=x.kind/\x.kind<=2
 .obtain⟨k,hk⟩: ∃k:Nat,x.kind=k:=⟨x.kind.toNat,by omega⟩;have C:k<=2:=by omega
  rw[eg5 m x k C hk];have y:=eh2 (w.heap.size+1) k;rw[<-hk] at y;have:k=0\/k=1\/k=2:=Yi;rcases this with rfl|rfl|rfl
  .exact Zq m v x o w _ _ (WD func228 aC rfl) z ho y (λW g j=>eg7 x o _ W g j)
  .exact Zq m v x o w _ _ (WD func229 aC rfl) z ho y (λW g j=>eg8 x o _ W g)
  .exact Zq m v x o w _ _ (WD func230 aC rfl) z ho y (λW g j=>eg9 x o _ W g j)
 .rw[eg6 m x h];obtain⟨A,n,c,rfl,_,_,_⟩:=ho.sk.form;exact eh3 m v x A n c w z h
def P4:Int->Option Value:=(aY (aY (aY (aY (aY (aY (aY (λ_=>Wr) 0 (Ye #[.func (.func 308) #[] #[],.func (.func 310) #[] #[]])) 1 (Ye #[.func (.func 311) #[] #[],.func (.func 312) #[] #[]])) 2 (Ye #[.func (.func 313) #[] #[],.func (.func 314) #[] #[]])) 3 (Ye #[.func (.func 315) #[] #[],.func (.func 316) #[] #[]])) 4 (Ye #[.func (.func 317) #[] #[],.func (.func 318) #[] #[]])) 5 (Ye #[.func (.func 319) #[] #[],.func (.func 320) #[] #[]])) 6 (Ye #[.func (.func 321) #[] #[],.func (.func 322) #[] #[]]))
def ao6 (w:Wu):
 WJ WH 233 #[] w λe w'=> ∃M,e=Xz (.map (Ws M))/\de iO w' M P4/\w.heap.size<=M/\Below w w w':=by
 refine tP λlM=> ?_;go_enter func233,ntmps233;go_wp2_with first
  |(refine ev rfl (Yg 1) (Yh (WK Xr 0)) (Yg 2) 259 (.inr rfl) 3 257 (.int Xr) underlying259 WI co w.heap.size (λ_=>Wr) rfl (de.made iO w) 0 (Ye #[.func (.func 308) #[] #[],.func (.func 310) #[] #[]]) rfl rfl ?_;intro Y A j)
  |(refine ev rfl (Yg 1) (Yh (WK Xr 1)) (Yg 3) 259 (.inr rfl) 3 257 (.int Xr) underlying259 WI co w.heap.size _ rfl A 1 (Ye #[.func (.func 311) #[] #[],.func (.func 312) #[] #[]]) rfl rfl ?_;intro Z C y)
  |(refine ev rfl (Yg 1) (Yh (WK Xr 2)) (Yg 4) 259 (.inr rfl) 3 257 (.int Xr) underlying259 WI co w.heap.size _ rfl C 2 (Ye #[.func (.func 313) #[] #[],.func (.func 314) #[] #[]]) rfl rfl ?_;intro w3 D z)
  |(refine ev rfl (Yg 1) (Yh (WK Xr 3)) (Yg 5) 259 (.inr rfl) 3 257 (.int Xr) underlying259 WI co w.heap.size _ rfl D 3 (Ye #[.func (.func 315) #[] #[],.func (.func 316) #[] #[]]) rfl rfl ?_;intro w4 U G)
  |(refine ev rfl (Yg 1) (Yh (WK Xr 4)) (Yg 6) 259 (.inr rfl) 3 257 (.int Xr) underlying259 WI co w.heap.size _ rfl U 4 (Ye #[.func (.func 317) #[] #[],.func (.func 318) #[] #[]]) rfl rfl ?_;intro w5 J F)
  |(refine ev rfl (Yg 1) (Yh (WK Xr 5)) (Yg 7) 259 (.inr rfl) 3 257 (.int Xr) underlying259 WI co w.heap.size _ rfl J 5 (Ye #[.func (.func 319) #[] #[],.func (.func 320) #[] #[]]) rfl rfl ?_;intro w6 g V)
  |(refine ev rfl (Yg 1) (Yh (WK Xr 6)) (Yg 8) 259 (.inr rfl) 3 257 (.int Xr) underlying259 WI co w.heap.size _ rfl g 6 (Ye #[.func (.func 321) #[] #[],.func (.func 322) #[] #[]]) rfl rfl ?_;intro w7 O I;have X:=aa (I.1 _ _ (V.1 _ _ (F.1 _ _ (G.1 _ _ (z.1 _ _ (y.1 _ _ (j.1 _ _ (ae (af w) _) (ag _)) (ag _)) (ag _)) (ag _)) (ag _)) (ag _)) (ag _));have c:=aa O;clear A j C y D z U G J F g V O I)
 go_ret;exact⟨_,rfl,c.out,ag _,X.out⟩
def eh5 {k:Int} (h: ¬(0<=k/\k<=6)):P4 k=none:=by unfold P4 aY;repeat rw[if_neg Yi]
end
section
open Go Go.RowKit Go.Proofs.Tryz
def FX (p:UInt8->Bool) (s:ak):Prop:= ∀c,s.head?=Ws c->p c=Ww
def Qa {p:UInt8->Bool}: ∀(w s:ak),w.all p=Wz->FX p s->(w++s).takeWhile p=w
 |[],s,_,h=>by
  cases s with
  |nil=>rfl
  |cons c r=>have:=h c rfl;simp[List.takeWhile_cons,this]
 |c::w,s,hw,h=>by simp only[List.all_cons,WC] at hw;rw[WZ,List.takeWhile_cons,if_pos hw.1,Qa w s hw.2 h]
def eu4 (w s:ak) (z:w.all cX=Wz) (g:kL (w.headD 0)=Wz) (A:w.length<=31) (y:FX cX s):
 tok (w++s)= .ok (if w∈dH then 2 else 1,w,0):=by
 cases w with
 |nil=>exact absurd g az
 |cons c r=>show tok (c::(r++s))=_;unfold tok;simp only;have j:kL c=true:=g;rw[if_pos j];unfold Aj;have:=Qa (p:=cX) (c::r) s z y;rw[WZ] at this;simp only[this];rw[if_neg Yi];split<;>rfl
def eu5 {c:UInt8} (h:bT c=Wz):kL c=false:=by
 unfold bT at h;unfold kL;simp at h⊢
 omega
def ax3 (a:Nat) (c:UInt8) (r:ak):mr a (c::r)=if 1048576<10*a+(c.toNat - 48) then Wr else mr (10*a+(c.toNat - 48)) r:=rfl
def ax4: ∀(l:ak) (a:Nat) (r:ak),mr a (l++r)=(mr a l).bind λb=>mr b r
 |[],a,r=>rfl
 |c::l,a,r=>by
  rw[WZ,ax3,ax3];split
  .rfl
  .exact ax4 l _ r
def ax5: ∀(n u:Nat),u<=n->u<=1048576->mr 0 (WV u)=Ws u
 |0,u,hn,_=>by have:u=0:=Yi;subst this;rw[WV,dif_pos Yi];rfl
 |n+1,u,hn,hu=>by
  rw[WV];by_cases c:u<10
  .rw[dif_pos c];unfold mr;simp only
   rw[Fj u c,if_neg Yi];unfold mr;congr 1;omega
  .rw[dif_neg c,ax4,ax5 n (u / 10) (by omega) (by omega)];show mr (u / 10) [UInt8.ofNat (48+u%10)]=_;unfold mr;simp only
   rw[Fj (u%10) Yi,if_neg Yi];unfold mr;congr 1;omega
def Qb (u:Nat):WB (u:Int)=WV u:=by unfold WB;rw[if_neg Yi];simp
def ax6: ∀(n u:Nat),u<=n->(WV u).head?=Ws 48->u=0
 |0,u,hn,_=>by omega
 |n+1,u,hn,h=>by
  rw[WV] at h;by_cases g:u<10
  .rw[dif_pos g] at h;have j:UInt8.ofNat (48+u)=48:=Xv h;have:=congrArg UInt8.toNat j;rw[Fj u g] at this;have e:(48:UInt8).toNat=48:=rfl;omega
  .rw[dif_neg g] at h;cases hd:Lib.decDigits (u / 10) with
   |nil=>exact absurd hd (MR _)
   |cons c r=>rw[hd] at h;have:=ax6 n (u / 10) Yi (by rw[hd];exact h);omega
def eu6 (u:Nat) (s:ak) (J:u<=1048576) (C:FX cX s):tok (WV u++s)= .ok (3,WV u,u):=by
 have j:(WV u).all bT=true:=by rw[Xo];intro c g;have:=Fk u u (ag _) c g;unfold bT;simp;omega
 have y:FX bT s:=λc g=>by have:=C c g;unfold cX at this;simp at this;simp[this]
 have O:FX gy s:=λc g=>by have:=C c g;unfold cX at this;simp at this;unfold gy;simp[this]
 have z:=Qa (p:=bT) _ s j y;have D:(s.takeWhile gy)=[]:=by have:=Qa (p:=gy) [] s rfl O;simpa using this
 cases hd:WV u with
 |nil=>exact absurd hd (MR _)
 |cons c r=>
  rw[hd] at z j;have g:bT c=true:=by simp at j;exact j.1
  show tok (c::(r++s))=_;unfold tok;simp only;rw[if_neg (by rw[eu5 g];simp),if_pos g];unfold yK;rw[WZ] at z;simp only[z];have U:(List.drop (c::r).length (c::(r++s)))=s:=Yl;rw[U,D];rw[if_neg (by
   rintro (⟨A,G⟩|h)
   .have I:(Lib.decDigits u).head?=some 48:=by rw[hd];simpa using G
    have F:=ax6 u u (ag _) I;subst F;rw[WV,dif_pos Yi] at hd;rw[<-hd] at A;simp at A
   .exact h rfl)]
  rw[<-hd,ax5 u u (ag _) J]
abbrev cZ:=Nat×ak×Nat
def lD (x:cZ):Prop:=
 (x.2.1.all cX=Wz/\kL (x.2.1.headD 0)=Wz/\x.2.1.length<=31/\x.1=(if x.2.1∈dH then 2 else 1)/\x.2.2=0)\/
 (x.1=3/\x.2.1=WV x.2.2/\x.2.2<=1048576)\/(x.1=4/\x.2.2=0/\(x.2.1=[59]\/x.2.1=[44]))
def iC:List cZ->ak
 |[]=>[]
 |x::r=>(if x.1=4 then x.2.1 else 32::x.2.1)++iC r
def e_.strip (t:e_):cZ:=(t.kind,t.text,t.n)
def lD.head {x:cZ} (h:lD x): ∃c r,x.2.1=c::r/\ig c=Ww/\c≠35:=by
 rcases h with ⟨_,h,_⟩|⟨_,h,_⟩|⟨_,_,h⟩
 .cases hx:x.2.1 with
  |nil=>rw[hx] at h;exact absurd h az
  |cons c r=>
   rw[hx] at h;have g:kL c=true:=h;refine⟨c,r,rfl,?_,?_⟩
   .unfold kL at g;unfold ig;simp at g⊢
    refine⟨⟨⟨?_,?_⟩,?_⟩,?_⟩<;>rintro rfl<;>revert g<;>decide
   .rintro rfl;revert g;decide
 .cases hx:Lib.decDigits x.2.2 with
  |nil=>exact absurd hx (MR _)
  |cons c r=>
   have g:=Fk x.2.2 x.2.2 (ag _) c (by rw[hx];simp);refine⟨c,r,by rw[h,hx],?_,?_⟩
   .unfold ig;simp;refine⟨⟨⟨?_,?_⟩,?_⟩,?_⟩<;>rintro rfl<;>revert g<;>decide
   .rintro rfl;revert g;decide
 .rcases h with h|h
  .exact⟨59,[],h,by decide,by decide⟩
  .exact⟨44,[],h,by decide,by decide⟩
def lD.tok {x:cZ} (h:lD x) (s:ak) (A:FX cX s):tok (x.2.1++s)= .ok x:=by
 obtain⟨k,t,n⟩:=x;rcases h with ⟨c,g,j,y,z⟩|⟨c,g,j⟩|⟨c,g,j⟩
 .dsimp only at c g j y z⊢
  rw[eu4 t s c g j A,y,z]
 .dsimp only at c g j⊢
  rw[g,eu6 n s j A,c]
 .dsimp only at c g j⊢
  subst c;subst g;rcases j with rfl|rfl<;>rfl
def Mz (x:cZ) (r:List cZ):iC (x::r)=(if x.1=4 then x.2.1 else 32::x.2.1)++iC r:=rfl
def eu7 (r:List cZ) (s:ak) (y: ∀x∈r,lD x):FX cX (iC r++10::s):=by
 cases r with
 |nil=>intro c g;injection g with g;subst g;rfl
 |cons x r=>
  intro c g;unfold iC at g;by_cases j:x.1=4
  .rw[if_pos j] at g;rcases y x (by simp) with ⟨_,_,_,h,_⟩|⟨h,_⟩|⟨_,_,h⟩
   .rw[j] at h;split at h<;>omega
   .omega
   .rcases h with h|h<;>rw[h] at g<;>injection g with g<;>subst g<;>rfl
  .rw[if_neg j] at g;injection g with g;subst g;rfl
def ax7: ∀(ts:List cZ) (s:ak) (len:Nat),(∀x∈ts,lD x)->
 ∃l:List e_,l.map e_.strip=ts/\gJ len (bV (iC ts++10::s))=(gJ len (bV s)).map (l++ ·)
 |[],s,len,_=>by
  refine⟨[],rfl,?_⟩;rw[iC,Xl,Ys az];cases gJ len (bV s)<;>rfl
 |x::r,s,len,h=>by
  obtain⟨l,hl,hs⟩:=ax7 r s len λy hy=>h y qO;have hx:=h x Yl;obtain⟨c,q,hq,hb,qQ⟩:=hx.head;have A:=eu7 r s λy hy=>h y qO;have g:bV (iC (x::r)++10::s)=c::(q++(iC r++10::s)):=by
   rw[Mz];split
   .rw[hq];simp only[WZ,Xd];rw[af2 hb qQ]
   .rw[hq];simp only[WZ,Xd];rw[Ys az,af2 hb qQ]
  have j:tok (c::(q++(iC r++10::s)))= .ok x:=by have:=hx.tok _ A;rw[hq] at this;exact this
  rw[g,gJ,j];simp only
  have z:(q++(iC r++10::s)).drop (x.2.1.length - 1)=iC r++10::s:=by rw[hq];simp
  rw[z,hs];refine⟨⟨x.1,x.2.1,x.2.2,len - ((q++(iC r++10::s)).length+1)⟩::l,by simp[hl,e_.strip],?_⟩;cases gJ len (bV s)<;>rfl
def tW (w:ak):cZ:=(if w∈dH then 2 else 1,w,0)
def tN (n:Nat):cZ:=(3,WV n,n)
def tS (c:UInt8):cZ:=(4,[c],0)
def lu:List ak->List cZ
 |[]=>[]
 |[a]=>[tW a]
 |a::b::l=>tW a::tS 44::lu (b::l)
def nT (d:au) (i:Nat):cZ:=tN (d.nums.getD i 0)
def zY (d:au) (i:Nat):List cZ:=[tW ka,nT d i,tW jY,nT d (i+1),tW jX,nT d (i+2)]
def MA (n:Nat):List cZ:=lu ((if n%2=1 then[mT] else[])++(if n / 2%2=1 then[fe] else[])++(if n / 4%2=1 then[fq] else[]))
def zS (d:au):List cZ:=d.refs.map tW++d.nums.map tN
def ot (d:au):List cZ:=
 match d.kind with
 |0=>[tW d.name]
 |1=>[tW d.name]
 |2=>[tW d.name,tW nD,tW (iw d 0),tW el,tW (iw d 1)]
 |3=>[tW d.name,tW nD,tW (iw d 0),tW yN,nT d 0]
 |5=>[tW d.name,tW el]++lu d.refs++zY d 0
 |6=>[tW d.name,nT d 0,tW el]++lu d.refs++zY d 1
 |7=>[tW d.name,tW el,tW (iw d 0)]++zY d 0
 |8=>[tW (iw d 0),tW yn,nT d 0,tW ym,nT d 1]
 |9=>MA d.by_
 |11=>if d.always then zS d++[tW iD] else zS d
 |12=>[tW (iw d 0),tW yM,tW (yw d.by_),nT d 0]
 |13=>[tW (iw d 0),tW el]++lu (d.refs.drop 1)
 |14=>[tW (iw d 0),tW yL,tW (iw d 1)]
 |_=>zS d
def fH (d:au):List cZ:=tW (rules.getD d.kind ([],[])).1::(ot d++[tS 59])
def pre (l:List ak):ak:=(l.map λw=>32::w).flatten
def ax8: ∀(l:List ak),l≠[]->32::dr [32] l=pre l
 |[a],_=>by simp[dr,pre]
 |a::b::l,_=>by have:=ax8 (b::l) Yl;show 32::(a++[32]++dr [32] (b::l))=(32::a)++pre (b::l);rw[<-this];simp
def Iv (a b:List ak):pre (a++b)=pre a++pre b:=by simp[pre]
def t8 (a:ak) (b:List ak):pre (a::b)=(32::a)++pre b:=by simp[pre]
def Dp: ∀(a b:List cZ),iC (a++b)=iC a++iC b
 |[],b=>rfl
 |x::a,b=>by rw[WZ,Mz,Mz,Dp a b,Xd]
def YZ (w:ak):(tW w).1≠4:=by unfold tW;dsimp only;split<;>decide
def qq (w:ak) (r:List cZ):iC (tW w::r)=(32::w)++iC r:=by rw[Mz,if_neg (YZ w)];rfl
def ax9 (n:Nat) (r:List cZ):iC (tN n::r)=(32::WV n)++iC r:=rfl
def ay0 (c:UInt8) (r:List cZ):iC (tS c::r)=c::iC r:=rfl
def sG:iC []=[]:=rfl
def MB: ∀(l:List ak),l≠[]->iC (lu l)=32::fZ l
 |[a],_=>by rw[lu,qq,sG];simp[fZ,dr]
 |a::b::l,_=>by have:=MB (b::l) Yl;rw[lu,qq,ay0,this];show(32::a)++44::32::fZ (b::l)=32::(a++[44,32]++dr [44,32] (b::l));simp[fZ]
def ay1: ∀(l:List ak),iC (l.map tW)=pre l
 |[]=>rfl
 |a::l=>by rw[WO,qq,t8,ay1 l]
def ay2: ∀(l:List Nat),iC (l.map tN)=pre (l.map λn=>WB (n:Nat))
 |[]=>rfl
 |a::l=>by rw[WO,WO,ax9,t8,ay2 l,Qb]
def FY (d:au):iC (zS d)=pre (kK d):=by rw[zS,kK,Dp,Iv,ay1,ay2]
def w_:pre []=[]:=rfl
def MC (d:au) (i:Nat) (r:List cZ):iC (nT d i::r)=(32::rp d i)++iC r:=by rw[nT,ax9,rp,Qb]
def Y0 (d:au) (i:Nat):iC (zY d i)=pre (tT d i):=by simp only[zY,tT,qq,MC,sG,t8,w_]
def ay3 (a:ak):pre [a]=32::a:=by simp[pre]
def eu8 (d:au) (c:d.kind=5\/d.kind=6->d.refs≠[]) (h:d.kind=13->d.refs.drop 1≠[]) (g:d.kind=9->1<=d.by_/\d.by_<=7):iC (ot d)=pre (ci d):=by
 unfold ot ci;generalize j:d.kind=k at c h g
 match k with
 |0=>simp only[qq,sG,t8,w_]
 |1=>simp only[qq,sG,t8,w_]
 |2=>simp only[qq,sG,t8,w_]
 |3=>simp only[qq,MC,sG,t8,w_]
 |5=>simp only[Dp,qq,Iv,t8,w_,sG,Y0,MB _ (c (.inl rfl)),XT];simp
 |6=>simp only[Dp,qq,MC,Iv,t8,w_,sG,Y0,MB _ (c (.inr rfl)),XT];simp
 |7=>simp only[Dp,qq,Iv,t8,w_,sG,Y0,XT]
 |8=>simp only[qq,MC,sG,t8,w_]
 |9=>
  obtain⟨h1,h7⟩:=g rfl;simp only;rw[ay3,MA,BX];rw[MB];rcases(by omega:d.by_=1\/d.by_=2\/d.by_=3\/d.by_=4\/d.by_=5\/d.by_=6\/d.by_=7) with e|e|e|e|e|e|e<;>rw[e]<;>decide
 |11=>
  simp only
  split
  .rw[Dp,Iv,FY,qq,sG,ay3];simp
  .exact FY d
 |12=>simp only[qq,MC,sG,t8,w_]
 |13=>simp only[Dp,qq,Iv,t8,w_,sG,MB _ (h rfl),XT];simp
 |14=>simp only[qq,sG,t8,w_]
 |4=>exact FY d
 |10=>exact FY d
 |15=>exact FY d
 |16=>exact FY d
 |n+17=>exact FY d
def ij {d:au} {nm:Bool} {a b c:Nat} {x y:Bool} (h:iz d nm a b c x y=Wz):
 a<=d.refs.length/\d.refs.length<=b/\d.nums.length=c/\(x=Wz\/d.by_=0)/\(y=Wz\/d.always=Ww)/\(if nm then br d.name=Wz else d.name=[]):=by
 unfold iz at h;simp only[WC,decide_eq_true_eq,XK] at h;obtain⟨⟨⟨⟨⟨h1,h2⟩,h3⟩,h4⟩,g⟩,h6⟩:=h;refine⟨h1,h2,h3,h4,?_,?_⟩
 .rcases g with h|h
  .exact .inl h
  .exact .inr zi
 .cases nm
  .simpa using h6
  .simpa using h6
def FZ {d:au} (h:je d=Wz):d.kind<=16:=by
 unfold je at h;generalize d.kind=k at h;rcases Xk k 17 with c|c
 .omega
 .obtain⟨n,rfl⟩: ∃n,k=n+17:=⟨k - 17,by omega⟩;exact absurd h Yl
def eu9 {d:au} (h:je d=Wz):(d.kind=5\/d.kind=6->d.refs≠[])/\(d.kind=13->d.refs.drop 1≠[])/\(d.kind=9->1<=d.by_/\d.by_<=7)/\ci d≠[]:=by
 have c:=FZ h;unfold je at h;unfold ci;generalize d.kind=k at h c;have ne {l:List ak} (h:1<=l.length):l≠[]:=by rintro rfl;simp at h
 have nn (h:1<=d.refs.length):kK d≠[]:=ca0;have nm (h:1<=d.nums.length):kK d≠[]:=ca0
 match k,c,h with
 |0,_,h=>exact⟨by simp,by simp,by simp,by simp⟩
 |1,_,h=>exact⟨by simp,by simp,by simp,by simp⟩
 |2,_,h=>exact⟨by simp,by simp,by simp,by simp⟩
 |3,_,h=>exact⟨by simp,by simp,by simp,by simp⟩
 |4,_,h=>exact⟨by simp,by simp,by simp,nn (by have:=(ij h).1;omega)⟩
 |5,_,h=>exact⟨λ_=>ne (ij h).1,by simp,by simp,by simp⟩
 |6,_,h=>exact⟨λ_=>ne (ij h).1,by simp,by simp,by simp⟩
 |7,_,h=>exact⟨by simp,by simp,by simp,by simp⟩
 |8,_,h=>exact⟨by simp,by simp,by simp,by simp⟩
 |9,_,h=>
  simp only[WC,decide_eq_true_eq] at h;exact⟨by simp,by simp,λ_=>⟨h.1.2,h.2⟩,by simp⟩
 |10,_,h=>exact⟨by simp,by simp,by simp,nn (ij h).1⟩
 |11,_,h=>
  refine⟨by simp,by simp,by simp,?_⟩;simp only;split
  .simp
  .exact nn (ij h).1
 |12,_,h=>exact⟨by simp,by simp,by simp,by simp⟩
 |13,_,h=>exact⟨by simp,λ_=>ne (by have:=(ij h).1;simp;omega),by simp,by simp⟩
 |14,_,h=>exact⟨by simp,by simp,by simp,by simp⟩
 |15,_,h=>exact⟨by simp,by simp,by simp,nm (by have:=(ij h).2.2.1;omega)⟩
 |16,_,h=>exact⟨by simp,by simp,by simp,nn (ij h).1⟩
def ay4 (d:au) (h:je d=Wz):iC (fH d)=32::cU d:=by obtain⟨h1,h2,h3,h4⟩:=eu9 h;rw[fH,qq,Dp,eu8 d h1 h2 h3,<-ax8 _ h4,ay0,sG,cU];simp
def at7 {w:ak} (c:w.all cX=Wz) (g:kL (w.headD 0)=Wz) (h:w.length<=31):lD (tW w):= .inl ⟨c,g,h,rfl,rfl⟩
def Iw {w:ak} (h:br w=Wz):lD (tW w):=by unfold br at h;simp only[WC,decide_eq_true_eq] at h;exact at7 h.1.2 h.1.1.2 h.1.1.1.2
def ev0: ∀w∈dH,w.all cX=Wz/\kL (w.headD 0)=Wz/\w.length<=31:=az
def Iz {w:ak} (h:w∈dH):lD (tW w):=by obtain⟨h1,h2,h3⟩:=ev0 w h;exact at7 h1 h2 h3
def at8 {n:Nat} (h:n<=1048576):lD (tN n):= .inr (.inl ⟨rfl,rfl,h⟩)
def ev1:lD (tS 59):= .inr (.inr ⟨rfl,rfl,.inl rfl⟩)
def ev2:lD (tS 44):= .inr (.inr ⟨rfl,rfl,.inr rfl⟩)
def MD: ∀(l:List ak),(∀w∈l,lD (tW w))->∀x∈lu l,lD x
 |[],_,x,hx=>by cases hx
 |[a],h,x,hx=>by simp[lu] at hx;subst hx;exact h a Yl
 |a::b::l,h,x,hx=>by
  simp only[lu,Xj] at hx;rcases hx with rfl|rfl|hx
  .exact h a Yl
  .exact ev2
  .exact MD (b::l) (λw c=>h w (by simp at c⊢;exact .inr c)) x hx
def at9: ∀k,k<=16->(rules.getD k ([],[])).1∈dH:=az
def Dq {d:au} (h: ∀n∈d.nums,n<=1048576) (i:Nat):lD (nT d i):=by
 refine at8 ?_;rw[WP];cases e:d.nums[i]? with
 |none=>simp
 |some n=>exact h n (eD e)
def B5 {d:au} (h: ∀w∈d.refs,br w=Wz) {i:Nat} (c:i<d.refs.length):lD (tW (iw d i)):=by refine Iw ?_;unfold iw;rw[WP,Wy c];exact h _ (List.getElem_mem c)
def Y1 {d:au} (h: ∀n∈d.nums,n<=1048576) (i:Nat): ∀x∈zY d i,lD x:=by
 intro x hx;simp only[zY,Xj,Xi,or_false] at hx;rcases hx with rfl|rfl|rfl|rfl|rfl|rfl
 .exact Iz az
 .exact Dq h _
 .exact Iz az
 .exact Dq h _
 .exact Iz az
 .exact Dq h _
def IA {d:au} (g: ∀w∈d.refs,br w=Wz) (c: ∀n∈d.nums,n<=1048576): ∀x∈zS d,lD x:=by
 intro x hx;rcases List.mem_append.1 hx with h|h
 .obtain⟨w,hw,rfl⟩:=List.mem_map.1 h;exact Iw (g w hw)
 .obtain⟨n,hw,rfl⟩:=List.mem_map.1 h;exact at8 (c n hw)
def ev3 (n:Nat): ∀x∈MA n,lD x:=by
 refine MD _ λw c=> ?_;have:w∈dH:=by simp only[Xt] at c;rcases c with (c|c)|c<;>split at c<;>simp at c<;>subst c<;>decide
 exact Iz this
def ev4 {d:au} (h:bx d=Wz): ∀x∈ot d,lD x:=by
 unfold bx at h;simp only[WC,Xo,decide_eq_true_eq] at h;obtain⟨⟨hs,hr⟩,hn⟩:=h;have z:=FZ hs;unfold je at hs;unfold ot;generalize d.kind=k at hs z;have nm {a b c:Nat} {x y:Bool} (h:iz d Wz a b c x y=Wz):lD (tW d.name):=Iw (ij h).2.2.2.2.2;have kw (w:ak) (h:w∈dH):lD (tW w):=Iz h
 match k,z,hs with
 |0,_,h=>simpa using nm h
 |1,_,h=>simpa using nm h
 |2,_,h=>have g:=(ij h).1;simp only[Xj,Xi,or_false,forall_eq_or_imp,forall_eq];exact⟨nm h,kw _ az,B5 hr Yi,kw _ az,B5 hr Yi⟩
 |3,_,h=>have g:=(ij h).1;simp only[Xj,Xi,or_false,forall_eq_or_imp,forall_eq];exact⟨nm h,kw _ az,B5 hr Yi,kw _ az,Dq hn _⟩
 |4,_,h=>exact IA hr hn
 |5,_,h=>
  simp only[Xt,Xj,Xi,or_false];rintro x (((rfl|rfl)|hx)|hx)
  .exact nm h
  .exact kw _ az
  .exact MD _ (λw j=>Iw (hr w j)) x hx
  .exact Y1 hn _ x hx
 |6,_,h=>
  simp only[Xt,Xj,Xi,or_false];rintro x (((rfl|rfl|rfl)|hx)|hx)
  .exact nm h
  .exact Dq hn _
  .exact kw _ az
  .exact MD _ (λw j=>Iw (hr w j)) x hx
  .exact Y1 hn _ x hx
 |7,_,h=>
  have g:=(ij h).1;simp only[Xt,Xj,Xi,or_false];rintro x ((rfl|rfl|rfl)|hx)
  .exact nm h
  .exact kw _ az
  .exact B5 hr Yi
  .exact Y1 hn _ x hx
 |8,_,h=>have g:=(ij h).1;simp only[Xj,Xi,or_false,forall_eq_or_imp,forall_eq];exact⟨B5 hr Yi,kw _ az,Dq hn _,kw _ az,Dq hn _⟩
 |9,_,h=>exact ev3 _
 |10,_,h=>exact IA hr hn
 |11,_,h=>
  simp only
  split
  .intro x hx;rcases List.mem_append.1 hx with hx|hx
   .exact IA hr hn x hx
   .simp at hx;subst hx;exact kw _ az
  .exact IA hr hn
 |12,_,h=>
  simp only[WC,decide_eq_true_eq] at h;have g:=(ij h.1.1).1;simp only[Xj,Xi,or_false,forall_eq_or_imp,forall_eq];refine⟨B5 hr Yi,kw _ az,kw _ ?_,Dq hn _⟩;rcases(by omega:d.by_=2\/d.by_=3\/d.by_=4) with e|e|e<;>rw[e]<;>decide
 |13,_,h=>
  have g:=(ij h).1;simp only[Xt,Xj,Xi,or_false];rintro x ((rfl|rfl)|hx)
  .exact B5 hr Yi
  .exact kw _ az
  .exact MD _ (λw j=>Iw (hr w (XV j))) x hx
 |14,_,h=>have g:=(ij h).1;simp only[Xj,Xi,or_false,forall_eq_or_imp,forall_eq];exact⟨B5 hr Yi,kw _ az,B5 hr Yi⟩
 |15,_,h=>exact IA hr hn
 |16,_,h=>exact IA hr hn
def au0 {d:au} (h:bx d=Wz): ∀x∈fH d,lD x:=by
 have c:d.kind<=16:=FZ N';intro x hx;simp only[fH,Xj,Xt,Xi,or_false] at hx;rcases hx with rfl|hx|rfl
 .exact Iz (at9 _ c)
 .exact ev4 h x hx
 .exact ev1
def au1: ∀(ds:List au) (s:ak) (len:Nat),(∀d∈ds,bx d=Wz)->
 ∃l:List e_,l.map e_.strip=(ds.map fH).flatten/\gJ len (bV (aE (ds.map cU)++s))=(gJ len (bV s)).map (l++ ·)
 |[],s,len,_=>by
  refine⟨[],rfl,?_⟩;show gJ len (bV ([]++s))=_;rw[Xl];cases gJ len (bV s)<;>rfl
 |d::r,s,len,h=>by
  have c:=h d Yl;have g:je d=true:=by unfold bx at c;simp only[WC] at c;exact c.1.1
  obtain⟨l2,h2,e2⟩:=au1 r s len λy hy=>h y qO;obtain⟨l1,h1,e1⟩:=ax7 (fH d) (aE (r.map cU)++s) len (au0 c);refine⟨l1++l2,by simp[h1,h2],?_⟩;have e:aE ((d::r).map cU)++s=cU d++10::(aE (r.map cU)++s):=xz;rw[e];rw[ay4 d g,WZ,Ys az] at e1;rw[e1,e2];cases gJ len (bV s)<;>simp[Except.map]
def aI (p:PS) (x:List cZ) (d:au):Prop:=p.e=0/\p.ts.map e_.strip=x/\p.d=d
def aI.cons {p:PS} {x:cZ} {r:List cZ} {d:au} (h:aI p (x::r) d): ∃t l,p.ts=t::l/\t.kind=x.1/\t.text=x.2.1/\t.n=x.2.2/\l.map e_.strip=r:=by
 obtain⟨_,h,_⟩:=h;cases hp:p.ts with
 |nil=>rw[hp] at h;cases h
 |cons t l=>rw[hp] at h;injection h with c g;subst c;exact⟨t,l,rfl,rfl,rfl,rfl,g⟩
def aI.take {p:PS} {x:cZ} {r:List cZ} {d:au} (h:aI p (x::r) d) (l:List ak) (c:l=[]\/x.2.1∈l):
 aI (p.take x.1 l).1 r d/\(p.take x.1 l).2.text=x.2.1/\(p.take x.1 l).2.n=x.2.2:=by
 obtain⟨t,q,ht,h1,h2,h3,h4⟩:=h.cons;obtain⟨he,_,hd⟩:=h;have g:p.head=t:=by simp[PS.head,ht]
 unfold PS.take;rw[if_neg (by
  rw[g,he,h1,h2];rintro (h|h|⟨h,j⟩)
  .exact h rfl
  .exact h rfl
  .rcases c with c|c
   .exact h c
   .exact j c)]
 refine⟨⟨he,?_,hd⟩,?_,?_⟩
 .show p.ts.tail.map _=_;rw[ht];exact h4
 .show p.head.text=_;rw[g,h2]
 .show p.head.n=_;rw[g,h3]
def au2 {w:ak} (h:w∉dH):tW w=(1,w,0):=by unfold tW;rw[if_neg h]
def F6 {w:ak} (h:w∈dH):tW w=(2,w,0):=by unfold tW;rw[if_pos h]
def aI.name {p:PS} {w:ak} {r:List cZ} {d:au} (g:w∉dH) (h:aI p (tW w::r) d):aI p.name r {d with name:=w}:=by rw[au2 g] at h;obtain⟨⟨a,b,c⟩,h2,_⟩:=h.take [] (.inl rfl);exact⟨a,b,by unfold PS.name;dsimp only at h2 c⊢;rw[h2,c]⟩
def aI.ref {p:PS} {w:ak} {r:List cZ} {d:au} (g:w∉dH) (h:aI p (tW w::r) d):aI p.ref r {d with refs:=d.refs++[w]}:=by rw[au2 g] at h;obtain⟨⟨a,b,c⟩,h2,_⟩:=h.take [] (.inl rfl);exact⟨a,b,by unfold PS.ref;dsimp only at h2 c⊢;rw[h2,c]⟩
def aI.number {p:PS} {n:Nat} {r:List cZ} {d:au} (h:aI p (tN n::r) d):aI p.number r {d with nums:=d.nums++[n]}:=by obtain⟨⟨a,b,c⟩,_,h3⟩:=h.take [] (.inl rfl);exact⟨a,b,by unfold PS.number;dsimp only[tN] at h3 c⊢;rw[h3,c]⟩
def aI.word {p:PS} {w:ak} {r:List cZ} {d:au} (c:w∈dH) (h:aI p (tW w::r) d):aI (p.part (.word w)) r d:=by rw[F6 c] at h;exact(h.take [w] (.inr Yl)).1
def aI.comma {p:PS} {r:List cZ} {d:au} (h:aI p (tS 44::r) d):p.comma.2=Wz/\aI p.comma.1 r d:=by
 refine ME λt q ht h1 h2 h3 h4 hh=> ?_;have e:p.comma=((p.take 4 []).1,Wz):=by
  unfold PS.comma;rw[if_neg (by
   rw[hh,h.1,h1,h2];rintro (h|h|h)
   .exact h rfl
   .exact h rfl
   .exact h rfl)]
 rw[e];exact⟨rfl,(h.take [] (.inl rfl)).1⟩
def aI.nocomma {p:PS} {x:cZ} {r:List cZ} {d:au} (h:aI p (x::r) d) (hx:x.1≠4\/x.2.1≠[44]):p.comma=(p,Ww):=by refine ME λt q ht h1 h2 h3 h4 hh=> ?_;unfold PS.comma;rw[if_pos (by rw[hh,h1,h2];exact .inr hx)]
def aI.listGo: ∀(l:List ak) (n:Nat) (p:PS) (x:cZ) (r:List cZ) (d:au),(∀w∈l,w∉dH)->n+l.length<=16->(x.1≠4\/x.2.1≠[44])->
 aI p ((l.map λw=>[tS 44,tW w]).flatten++x::r) d->aI (p.listGo n) (x::r) {d with refs:=d.refs++l}
 |[],n,p,x,r,d,_,_,hx,h=>by rw[PS.listGo];have e:=aI.nocomma (p:=p) h hx;rw[dif_neg (by rw[e];simp),e];simpa using h
 |w::l,n,p,x,r,d,hw,hn,hx,h=>by simp only[WO,List.flatten_cons,WZ,Xl] at h;obtain⟨h1,h2⟩:=h.comma;rw[PS.listGo,dif_pos h1];simp at hn;rw[if_neg Yi];have c:=aI.ref (hw w Yl) h2;have:=aI.listGo l (n+1) p.comma.1.ref x r _ (λy hy=>hw y qO) Yi hx c;simpa using this
def au3: ∀(a:ak) (l:List ak),lu (a::l)=tW a::(l.map λw=>[tS 44,tW w]).flatten
 |a,[]=>rfl
 |a,b::l=>by rw[lu,au3 b l];rfl
def aI.list {p:PS} {l:List ak} {x:cZ} {r:List cZ} {d:au} (j:l≠[]) (c: ∀w∈l,w∉dH) (hn:l.length<=16) (hx:x.1≠4\/x.2.1≠[44])
 (h:aI p (lu l++x::r) d):aI p.list (x::r) {d with refs:=d.refs++l}:=by
 cases l with
 |nil=>exact absurd rfl j
 |cons a l=>rw[au3] at h;have g:=aI.ref (c a Yl) h;have:=aI.listGo l 1 p.ref x r _ (λy hy=>c y qO) Kk hx g;simpa[PS.list] using this
def aI.domain {p:PS} {n:Nat} {r:List cZ} {d:au} (j:n=2\/n=3\/n=4) (h:aI p (tW (yw n)::r) d):aI p.domain r {d with by_:=n}:=by
 have g:yw n∈dH/\(yw n∈[fe,fq,jB])/\iP (yw n)=n:=by rcases j with rfl|rfl|rfl<;>decide
 rw[F6 g.1] at h;obtain⟨⟨a,b,c⟩,h2,_⟩:=h.take [fe,fq,jB] (.inr g.2.1);exact⟨a,b,by unfold PS.domain;dsimp only at h2 c⊢;rw[h2,c,g.2.2]⟩
def aI.alw {p:PS} {r:List cZ} {d:au} (h:aI p (tW iD::r) d):aI p.alw r {d with always:=Wz}:=by rw[F6 az] at h;refine ME λt q ht h1 h2 h3 h4 hh=> ?_;obtain⟨⟨a,b,c⟩,h5,_⟩:=h.take [] (.inl rfl);unfold PS.alw;rw[if_pos (by rw[hh,h1,h2];exact⟨h.1,rfl,rfl⟩)];exact⟨a,b,by dsimp only at c⊢;rw[c]⟩
def aI.noalw {p:PS} {x:cZ} {r:List cZ} {d:au} (hx:x.1≠2\/x.2.1≠iD) (h:aI p (x::r) d):p.alw=p:=by
 refine ME λt q ht h1 h2 h3 h4 hh=> ?_;unfold PS.alw;rw[if_neg (by
  rw[hh,h1,h2];rintro ⟨_,c,g⟩;rcases hx with hx|hx
  .exact hx c
  .exact hx g)]
def aI.classGo: ∀(l left:List ak) (p:PS) (x:cZ) (r:List cZ) (d:au),l≠[]->(∀w∈l,w∈dH)->(∀w∈l,w∈left)->l.Nodup->(x.1≠4\/x.2.1≠[44])->
 aI p (lu l++x::r) d->aI (p.classGo left) (x::r) {d with by_:=d.by_+(l.map fM).sum}
 |[a],left,p,x,r,d,_,hk,hm,hd,hx,h=>by
  have y:left≠[]:=λe=>by have:=hm a Yl;rw[e] at this;cases this
  have j:aI p ((2,a,0)::x::r) d:=by have:=h;rw[lu,F6 (hk a Yl)] at this;exact this
  obtain⟨⟨e1,e2,e3⟩,h2,_⟩:=j.take left (.inr (hm a Yl));rw[PS.classGo,if_neg y];have c:aI ({(p.take 2 left).1 with d:={(p.take 2 left).1.d with by_:=(p.take 2 left).1.d.by_+fM (p.take 2 left).2.text}}:PS) (x::r) {d with by_:=d.by_+fM a}:=
   ⟨e1,e2,by dsimp only at h2 e3⊢;rw[h2,e3]⟩
  have z:=aI.nocomma c hx;simp only;rw[dif_neg (by rw[z];simp),z];simpa using c
 |a::b::l,left,p,x,r,d,_,hk,hm,hd,hx,h=>by
  have y:left≠[]:=λe=>by have:=hm a Yl;rw[e] at this;cases this
  have j:aI p ((2,a,0)::tS 44::(lu (b::l)++x::r)) d:=by have:=h;rw[lu,F6 (hk a Yl)] at this;exact this
  obtain⟨⟨e1,e2,e3⟩,h2,_⟩:=j.take left (.inr (hm a Yl));rw[PS.classGo,if_neg y];have c:aI ({(p.take 2 left).1 with d:={(p.take 2 left).1.d with by_:=(p.take 2 left).1.d.by_+fM (p.take 2 left).2.text}}:PS) (tS 44::(lu (b::l)++x::r)) {d with by_:=d.by_+fM a}:=
   ⟨e1,e2,by dsimp only at h2 e3⊢;rw[h2,e3]⟩
  obtain⟨bt,cR⟩:=c.comma;simp only;rw[dif_pos bt];have A:=List.nodup_cons.1 hd;have:=aI.classGo (b::l) (left.filter λs=> !Wt (s=(p.take 2 left).2.text)) _ x r _ Yl (λw g=>hk w (List.mem_cons_of_mem _ g)) (λw g=>by rw[List.mem_filter];refine⟨hm w (List.mem_cons_of_mem _ g),?_⟩;dsimp only at h2;rw[h2];have:w≠a:=λe=>A.1 (e▸g);simpa using this) A.2 hx cR;simpa[Nat.add_assoc] using this
def aI.parts {p:PS} {x:jZ} {l:List jZ} {r:List cZ} {d:au} (h:aI p r d):p.parts (x::l)=(p.part x).parts l:=by show PS.parts (if p.e=0 then p.part x else p) l=_;rw[if_pos h.1]
def aI.load {p:PS} {a b c:Nat} {r:List cZ} {d:au} (h:aI p ([tW ka,tN a,tW jY,tN b,tW jX,tN c]++r) d):aI (p.parts Mh) r {d with nums:=d.nums++[a,b,c]}:=by have g:=aI.word az h;have j:aI (PS.part _ .number) _ _:=aI.number g;have y:=aI.word az j;have z:aI (PS.part _ .number) _ _:=aI.number y;have A:=aI.word az z;have C:aI (PS.part _ .number) _ _:=aI.number A;unfold Mh;rw[h.parts,g.parts,j.parts,y.parts,z.parts,A.parts];show aI (PS.part _ .number) r _;have e:d.nums++[a,b,c]=d.nums++[a]++[b]++[c]:=Yl;rw[e];exact C
def Dr {w:ak} (h:br w=Wz):w∉dH:=by unfold br at h;simp only[WC,X2,decide_eq_false_iff_not] at h;exact h.2
def ev5: ∀k,k<=16->rules.findIdx? (λx=>Wt (x.1=(rules.getD k ([],[])).1))=Ws k:=az
def aI.decl_of {p:PS} {r:List cZ} {j d:au} {k:Nat} {body:List cZ} (g:k<=16) (h:aI p (tW (rules.getD k ([],[])).1::(body++tS 59::r)) j)
 (z: ∀q,aI q (body++tS 59::r) {kind:=k}->aI (q.parts (rules.getD k ([],[])).2) (tS 59::r) d):aI p.decl.1 r d/\p.decl.2=d:=by
 rw[F6 (at9 k g)] at h;refine ME λt q ht h1 h2 h3 h4 hh=> ?_;have C:ga p.head=Ws k:=by unfold ga;rw[hh,h1,h2,if_pos rfl];exact ev5 k g
 obtain⟨⟨a,b,c⟩,_,_⟩:=h.take [] (.inl rfl);have A:aI {(p.take 2 []).1 with d:={kind:=k}} (body++tS 59::r) {kind:=k}:=⟨a,b,rfl⟩;have y:=z _ A;obtain⟨h6,_,_⟩:=y.take [[59]] (.inr (by simp[tS]));unfold PS.decl;rw[C];exact⟨h6,h6.2.2⟩
def yD {α:Type} {l:List α} (h:l.length=0):l=[]:=X7 h
def va {α:Type} {l:List α} (h:l.length=1): ∃a,l=[a]:=by
 match l,h with
 |[a],_=>exact⟨a,rfl⟩
def Qc {α:Type} {l:List α} (h:l.length=2): ∃a b,l=[a,b]:=by
 match l,h with
 |[a,b],_=>exact⟨a,b,rfl⟩
def au4 {α:Type} {l:List α} (h:l.length=3): ∃a b c,l=[a,b,c]:=by
 match l,h with
 |[a,b,c],_=>exact⟨a,b,c,rfl⟩
def ev6 {α:Type} {l:List α} (h:l.length=4): ∃a b c e,l=[a,b,c,e]:=by
 match l,h with
 |[a,b,c,e],_=>exact⟨a,b,c,e,rfl⟩
def aI.decl2 {p:PS} {r:List cZ} {j:au} {nm:ak} {a b:ak} (hn:nm∉dH) (z:a∉dH) (A:b∉dH)
 (h:aI p (fH {kind:=2,name:=nm,refs:=[a,b]}++r) j):aI p.decl.1 r {kind:=2,name:=nm,refs:=[a,b]}/\p.decl.2={kind:=2,name:=nm,refs:=[a,b]}:=by
 refine aI.decl_of (k:=2) (body:=[tW nm,tW nD,tW a,tW el,tW b]) Yi (by simpa[fH,ot,iw] using h) λq hq=> ?_;refine Qd λh1 h2=> ?_;have c:aI (PS.part _ .ref) _ _:=aI.ref z h2;have g:=aI.word az c;have y:aI (PS.part _ .ref) _ _:=aI.ref A g;show aI (q.parts [.name,.word nD,.ref,.word el,.ref]) _ _;rw[hq.parts,h1.parts,h2.parts,c.parts,g.parts];exact y
def aI.decl0 {p:PS} {r:List cZ} {g:au} {nm:ak} (y:nm∉dH)
 (h:aI p (fH ({kind:=0,name:=nm}:au)++r) g):aI p.decl.1 r ({kind:=0,name:=nm}:au)/\p.decl.2=({kind:=0,name:=nm}:au):=by
 refine aI.decl_of (k:=0) (body:=[tW nm]) Yi (by simpa[fH,ot] using h) λq c=> ?_;have j:aI (PS.part _ .name) _ _:=aI.name y c;show aI (q.parts [.name]) _ _;rw[c.parts];exact j
def aI.decl1 {p:PS} {r:List cZ} {g:au} {nm:ak} (y:nm∉dH)
 (h:aI p (fH ({kind:=1,name:=nm}:au)++r) g):aI p.decl.1 r ({kind:=1,name:=nm}:au)/\p.decl.2=({kind:=1,name:=nm}:au):=by
 refine aI.decl_of (k:=1) (body:=[tW nm]) Yi (by simpa[fH,ot] using h) λq c=> ?_;have j:aI (PS.part _ .name) _ _:=aI.name y c;show aI (q.parts [.name]) _ _;rw[c.parts];exact j
def aI.decl3 {p:PS} {r:List cZ} {z:au} {nm:ak} (hn:nm∉dH) {c:ak} (C:c∉dH) {g:Nat}
 (h:aI p (fH ({kind:=3,name:=nm,refs:=[c],nums:=[g]}:au)++r) z):aI p.decl.1 r ({kind:=3,name:=nm,refs:=[c],nums:=[g]}:au)/\p.decl.2=({kind:=3,name:=nm,refs:=[c],nums:=[g]}:au):=by
 refine aI.decl_of (k:=3) (body:=[tW nm,tW nD,tW c,tW yN,tN g]) Yi TN λq hq=> ?_;refine Qd λh1 h2=> ?_;have j:aI (PS.part _ .ref) _ _:=aI.ref C h2;have y:=aI.word az j;have A:aI (PS.part _ .number) _ _:=aI.number y;show aI (q.parts [.name,.word nD,.ref,.word yN,.number]) _ _;rw[hq.parts,h1.parts,h2.parts,j.parts,y.parts];exact A
def aI.decl4 {p:PS} {r:List cZ} {C:au} {c:ak} (F:c∉dH) {g:ak} (G:g∉dH) {j:Nat}
 (h:aI p (fH ({kind:=4,refs:=[c,g],nums:=[j]}:au)++r) C):aI p.decl.1 r ({kind:=4,refs:=[c,g],nums:=[j]}:au)/\p.decl.2=({kind:=4,refs:=[c,g],nums:=[j]}:au):=by
 refine aI.decl_of (k:=4) (body:=[tW c,tW g,tN j]) Yi (by simpa[fH,ot,iw,nT,zS] using h) λq A=> ?_;have y:aI (PS.part _ .ref) _ _:=aI.ref F A;have z:aI (PS.part _ .ref) _ _:=aI.ref G y;have D:aI (PS.part _ .number) _ _:=aI.number z;show aI (q.parts [.ref,.ref,.number]) _ _;rw[A.parts,y.parts,z.parts];exact D
def aI.decl5 {p:PS} {r:List cZ} {y:au} {nm:ak} (hn:nm∉dH) {rs:List ak} (z:rs≠[]) (A: ∀w∈rs,w∉dH) (C:rs.length<=16) {c g j:Nat}
 (h:aI p (fH ({kind:=5,name:=nm,refs:=rs,nums:=[c,g,j]}:au)++r) y):aI p.decl.1 r ({kind:=5,name:=nm,refs:=rs,nums:=[c,g,j]}:au)/\p.decl.2=({kind:=5,name:=nm,refs:=rs,nums:=[c,g,j]}:au):=by
 refine aI.decl_of (k:=5) (body:=[tW nm,tW el]++lu rs++[tW ka,tN c,tW jY,tN g,tW jX,tN j]) Yi (by simpa[fH,ot,nT,zY] using h) λq hq=> ?_;simp only[Xd,WZ,Xl] at hq;refine Qd λh1 h2=> ?_;have h3:aI (PS.part _ .list) _ _:=aI.list z A C (.inl (YZ _)) h2;refine au5 λh4 h5 h6 h7 h8 h9=> ?_;show aI (q.parts [.name,.word el,.list,.word ka,.number,.word jY,.number,.word jX,.number]) _ _;rw[hq.parts,h1.parts,h2.parts,h3.parts,h4.parts,h5.parts,h6.parts,h7.parts,h8.parts];show aI (PS.part _ .number) _ _;simpa using h9
def aI.decl6 {p:PS} {r:List cZ} {V:au} {nm:ak} (Z:nm∉dH) {rs:List ak} (Y:rs≠[]) (hw: ∀w∈rs,w∉dH) (pQ:rs.length<=16) {c g j y:Nat}
 (h:aI p (fH ({kind:=6,name:=nm,refs:=rs,nums:=[c,g,j,y]}:au)++r) V):aI p.decl.1 r ({kind:=6,name:=nm,refs:=rs,nums:=[c,g,j,y]}:au)/\p.decl.2=({kind:=6,name:=nm,refs:=rs,nums:=[c,g,j,y]}:au):=by
 refine aI.decl_of (k:=6) (body:=[tW nm,tN c,tW el]++lu rs++[tW ka,tN g,tW jY,tN j,tW jX,tN y]) Yi (by simpa[fH,ot,nT,zY] using h) λq z=> ?_;simp only[Xd,WZ,Xl] at z;have A:aI (PS.part _ .name) _ _:=aI.name Z z;have C:aI (PS.part _ .number) _ _:=aI.number A;have D:=aI.word az C;have F:aI (PS.part _ .list) _ _:=aI.list Y hw pQ (.inl (YZ _)) D;have G:=aI.word az F;have I:aI (PS.part _ .number) _ _:=aI.number G;have J:=aI.word az I;have O:aI (PS.part _ .number) _ _:=aI.number J;have U:=aI.word az O;have X:aI (PS.part _ .number) _ _:=aI.number U;show aI (q.parts [.name,.number,.word el,.list,.word ka,.number,.word jY,.number,.word jX,.number]) _ _;rw[z.parts,A.parts,C.parts,D.parts,F.parts,G.parts,I.parts,J.parts,O.parts,U.parts];show aI (PS.part _ .number) _ _;simpa using X
def aI.decl7 {p:PS} {r:List cZ} {z:au} {nm:ak} (hn:nm∉dH) {c:ak} (A:c∉dH) {g j y:Nat}
 (h:aI p (fH ({kind:=7,name:=nm,refs:=[c],nums:=[g,j,y]}:au)++r) z):aI p.decl.1 r ({kind:=7,name:=nm,refs:=[c],nums:=[g,j,y]}:au)/\p.decl.2=({kind:=7,name:=nm,refs:=[c],nums:=[g,j,y]}:au):=by
 refine aI.decl_of (k:=7) (body:=[tW nm,tW el,tW c,tW ka,tN g,tW jY,tN j,tW jX,tN y]) Yi (by simpa[fH,ot,iw,nT,zY] using h) λq hq=> ?_;refine Qd λh1 h2=> ?_;have h3:aI (PS.part _ .ref) _ _:=aI.ref A h2;refine au5 λh4 h5 h6 h7 h8 h9=> ?_;show aI (q.parts [.name,.word el,.ref,.word ka,.number,.word jY,.number,.word jX,.number]) _ _;rw[hq.parts,h1.parts,h2.parts,h3.parts,h4.parts,h5.parts,h6.parts,h7.parts,h8.parts];exact h9
def aI.decl8 {p:PS} {r:List cZ} {A:au} {c:ak} (lG:c∉dH) {g j:Nat}
 (h:aI p (fH ({kind:=8,refs:=[c],nums:=[g,j]}:au)++r) A):aI p.decl.1 r ({kind:=8,refs:=[c],nums:=[g,j]}:au)/\p.decl.2=({kind:=8,refs:=[c],nums:=[g,j]}:au):=by
 refine aI.decl_of (k:=8) (body:=[tW c,tW yn,tN g,tW ym,tN j]) Yi TN λq hq=> ?_;refine Qe λh1 h2=> ?_;have y:aI (PS.part _ .number) _ _:=aI.number h2;have z:=aI.word az y;have C:aI (PS.part _ .number) _ _:=aI.number z;show aI (q.parts [.ref,.word yn,.number,.word ym,.number]) _ _;rw[hq.parts,h1.parts,h2.parts,y.parts,z.parts];exact C
def aI.decl10 {p:PS} {r:List cZ} {j:au} {c:ak} (z:c∉dH)
 (h:aI p (fH ({kind:=10,refs:=[c]}:au)++r) j):aI p.decl.1 r ({kind:=10,refs:=[c]}:au)/\p.decl.2=({kind:=10,refs:=[c]}:au):=by
 refine aI.decl_of (k:=10) (body:=[tW c]) Yi TO λq g=> ?_;have y:aI (PS.part _ .ref) _ _:=aI.ref z g;show aI (q.parts [.ref]) _ _;rw[g.parts];exact y
def aI.decl14 {p:PS} {r:List cZ} {j:au} {c:ak} (lG:c∉dH) {g:ak} (z:g∉dH)
 (h:aI p (fH ({kind:=14,refs:=[c,g]}:au)++r) j):aI p.decl.1 r ({kind:=14,refs:=[c,g]}:au)/\p.decl.2=({kind:=14,refs:=[c,g]}:au):=by
 refine aI.decl_of (k:=14) (body:=[tW c,tW yL,tW g]) Yi (by simpa[fH,ot,iw] using h) λq hq=> ?_;refine Qe λh1 h2=> ?_;have y:aI (PS.part _ .ref) _ _:=aI.ref z h2;show aI (q.parts [.ref,.word yL,.ref]) _ _;rw[hq.parts,h1.parts,h2.parts];exact y
def aI.decl15 {p:PS} {r:List cZ} {j:au} {c:Nat}
 (h:aI p (fH ({kind:=15,nums:=[c]}:au)++r) j):aI p.decl.1 r ({kind:=15,nums:=[c]}:au)/\p.decl.2=({kind:=15,nums:=[c]}:au):=by
 refine aI.decl_of (k:=15) (body:=[tN c]) Yi (by simpa[fH,ot,nT,zS] using h) λq g=> ?_;have y:aI (PS.part _ .number) _ _:=aI.number g;show aI (q.parts [.number]) _ _;rw[g.parts];exact y
def aI.decl16 {p:PS} {r:List cZ} {z:au} {c:ak} (C:c∉dH) {g:Nat}
 (h:aI p (fH ({kind:=16,refs:=[c],nums:=[g]}:au)++r) z):aI p.decl.1 r ({kind:=16,refs:=[c],nums:=[g]}:au)/\p.decl.2=({kind:=16,refs:=[c],nums:=[g]}:au):=by
 refine aI.decl_of (k:=16) (body:=[tW c,tN g]) Yi (by simpa[fH,ot,iw,nT,zS] using h) λq y=> ?_;have j:aI (PS.part _ .ref) _ _:=aI.ref C y;have A:aI (PS.part _ .number) _ _:=aI.number j;show aI (q.parts [.ref,.number]) _ _;rw[y.parts,j.parts];exact A
def aI.decl12 {p:PS} {r:List cZ} {y:au} {c:ak} (lG:c∉dH) {g b:Nat} (A:b=2\/b=3\/b=4)
 (h:aI p (fH ({kind:=12,refs:=[c],nums:=[g],by_:=b}:au)++r) y):aI p.decl.1 r {kind:=12,refs:=[c],nums:=[g],by_:=b}/\p.decl.2={kind:=12,refs:=[c],nums:=[g],by_:=b}:=by
 refine aI.decl_of (k:=12) (body:=[tW c,tW yM,tW (yw b),tN g]) Yi TN λq hq=> ?_;refine Qe λh1 h2=> ?_;have j:aI (PS.part _ .domain) _ _:=aI.domain A h2;have z:aI (PS.part _ .number) _ _:=aI.number j;show aI (q.parts [.ref,.word yM,.domain,.number]) _ _;rw[hq.parts,h1.parts,h2.parts,j.parts];exact z
def aI.decl13 {p:PS} {r:List cZ} {g:au} {c:ak} (lG:c∉dH) {rs:List ak} (y:rs≠[]) (z: ∀w∈rs,w∉dH) (A:rs.length<=16)
 (h:aI p (fH ({kind:=13,refs:=c::rs}:au)++r) g):aI p.decl.1 r {kind:=13,refs:=c::rs}/\p.decl.2={kind:=13,refs:=c::rs}:=by
 refine aI.decl_of (k:=13) (body:=[tW c,tW el]++lu rs) Yi (by simpa[fH,ot,iw] using h) λq hq=> ?_;simp only[Xd,WZ,Xl] at hq;refine Qe λh1 h2=> ?_;have j:aI (PS.part _ .list) _ _:=aI.list y z A (.inr (by simp[tS])) h2;show aI (q.parts [.ref,.word el,.list]) _ _;rw[hq.parts,h1.parts,h2.parts];show aI (PS.part _ .list) _ _;simpa using j
def aI.decl11f {p:PS} {r:List cZ} {A:au} {c:ak} (C:c∉dH) {g:Nat}
 (h:aI p (fH ({kind:=11,refs:=[c],nums:=[g]}:au)++r) A):aI p.decl.1 r {kind:=11,refs:=[c],nums:=[g]}/\p.decl.2={kind:=11,refs:=[c],nums:=[g]}:=by
 refine aI.decl_of (k:=11) (body:=[tW c,tN g]) Yi TO λq z=> ?_;have y:aI (PS.part _ .ref) _ _:=aI.ref C z;have j:aI (PS.part _ .number) _ _:=aI.number y;show aI (q.parts [.ref,.number,.alw]) _ _;rw[z.parts,y.parts,j.parts];show aI (PS.alw _) _ _;rw[aI.noalw (.inl (by simp[tS])) j];exact j
def aI.decl11t {p:PS} {r:List cZ} {A:au} {c:ak} (D:c∉dH) {g:Nat}
 (h:aI p (fH ({kind:=11,refs:=[c],nums:=[g],always:=Wz}:au)++r) A):aI p.decl.1 r {kind:=11,refs:=[c],nums:=[g],always:=Wz}/\p.decl.2={kind:=11,refs:=[c],nums:=[g],always:=Wz}:=by
 refine aI.decl_of (k:=11) (body:=[tW c,tN g,tW iD]) Yi TO λq z=> ?_;have j:aI (PS.part _ .ref) _ _:=aI.ref D z;have y:aI (PS.part _ .number) _ _:=aI.number j;have C:aI (PS.part _ .alw) _ _:=aI.alw y;show aI (q.parts [.ref,.number,.alw]) _ _;rw[z.parts,j.parts,y.parts];exact C
def aI.decl9 {p:PS} {r:List cZ} {j:au} {b:Nat} (z:1<=b) (A:b<=7)
 (h:aI p (fH ({kind:=9,by_:=b}:au)++r) j):aI p.decl.1 r {kind:=9,by_:=b}/\p.decl.2={kind:=9,by_:=b}:=by
 refine aI.decl_of (k:=9) (body:=MA b) Yi (by simpa[fH,ot] using h) λq c=> ?_;have y: ∃l:List ak,MA b=lu l/\l≠[]/\(∀w∈l,w∈dH)/\(∀w∈l,w∈[mT,fe,fq])/\l.Nodup/\(l.map fM).sum=b:=by refine⟨_,rfl,?_⟩;rcases(by omega:b=1\/b=2\/b=3\/b=4\/b=5\/b=6\/b=7) with rfl|rfl|rfl|rfl|rfl|rfl|rfl<;>decide
 obtain⟨l,e1,e2,e3,e4,e5,e6⟩:=y;rw[e1] at c;have g:=aI.classGo l [mT,fe,fq] q _ r _ e2 e3 e4 e5 (.inr (by simp[tS])) c;show aI (q.parts [.classes]) _ _;rw[c.parts];show aI (PS.classGo _ q) _ _;rw[e6] at g;simpa using g
def aI.decl_valid {p:PS} {r:List cZ} {F d:au} (A:bx d=Wz) (h:aI p (fH d++r) F):aI p.decl.1 r d/\p.decl.2=d:=by
 unfold bx at A;simp only[WC,Xo] at A;obtain⟨⟨c,hr⟩,hn⟩:=A;have D:=FZ c;obtain⟨k,nm,rs,ns,b,al⟩:=d;have z: ∀w∈rs,w∉dH:=λw C=>Dr (hr w C);unfold je at c;dsimp only at c D;clear hr hn
 match k,D,c,h with
 |0,_,c,h=>
  obtain⟨g,j,h3,h4,h5,h6⟩:=ij c;dsimp only at g j h3 h4 h5 h6;obtain rfl:=yD (l:=rs) Yi;obtain rfl:=yD h3;obtain rfl:b=0:=oh;obtain rfl:al=false:=pC;exact aI.decl0 (Dr h6) h
 |1,_,c,h=>
  obtain⟨g,j,h3,h4,h5,h6⟩:=ij c;dsimp only at g j h3 h4 h5 h6;obtain rfl:=yD (l:=rs) Yi;obtain rfl:=yD h3;obtain rfl:b=0:=oh;obtain rfl:al=false:=pC;exact aI.decl1 (Dr h6) h
 |2,_,c,h=>
  obtain⟨g,j,h3,h4,h5,h6⟩:=ij c;dsimp only at g j h3 h4 h5 h6;obtain⟨x,y,rfl⟩:=Qc (l:=rs) Yi;obtain rfl:=yD h3;obtain rfl:b=0:=oh;obtain rfl:al=false:=pC;exact aI.decl2 (Dr h6) (z _ Yl) (z _ Yl) h
 |3,_,c,h=>
  obtain⟨g,j,h3,h4,h5,h6⟩:=ij c;dsimp only at g j h3 h4 h5 h6;obtain⟨x,rfl⟩:=va (l:=rs) Yi;obtain⟨n,rfl⟩:=va h3;obtain rfl:b=0:=oh;obtain rfl:al=false:=pC;exact aI.decl3 (Dr h6) (z _ Yl) h
 |4,_,c,h=>
  obtain⟨g,j,h3,h4,h5,h6⟩:=ij c;dsimp only at g j h3 h4 h5 h6;obtain⟨x,y,rfl⟩:=Qc (l:=rs) Yi;obtain⟨n,rfl⟩:=va h3;obtain rfl:b=0:=oh;obtain rfl:al=false:=pC;obtain rfl:nm=[]:=h6;exact aI.decl4 (z _ Yl) (z _ Yl) h
 |5,_,c,h=>
  obtain⟨g,j,h3,h4,h5,h6⟩:=ij c;dsimp only at g j h3 h4 h5 h6;obtain⟨n0,n1,n2,rfl⟩:=au4 h3;obtain rfl:b=0:=oh;obtain rfl:al=false:=pC;exact aI.decl5 (Dr h6) (by rintro rfl;simp at g) z j h
 |6,_,c,h=>
  obtain⟨g,j,h3,h4,h5,h6⟩:=ij c;dsimp only at g j h3 h4 h5 h6;obtain⟨n0,n1,n2,n3,rfl⟩:=ev6 h3;obtain rfl:b=0:=oh;obtain rfl:al=false:=pC;exact aI.decl6 (Dr h6) (by rintro rfl;simp at g) z j h
 |7,_,c,h=>
  obtain⟨g,j,h3,h4,h5,h6⟩:=ij c;dsimp only at g j h3 h4 h5 h6;obtain⟨x,rfl⟩:=va (l:=rs) Yi;obtain⟨n0,n1,n2,rfl⟩:=au4 h3;obtain rfl:b=0:=oh;obtain rfl:al=false:=pC;exact aI.decl7 (Dr h6) (z _ Yl) h
 |8,_,c,h=>
  obtain⟨g,j,h3,h4,h5,h6⟩:=ij c;dsimp only at g j h3 h4 h5 h6;obtain⟨x,rfl⟩:=va (l:=rs) Yi;obtain⟨n0,n1,rfl⟩:=Qc h3;obtain rfl:b=0:=oh;obtain rfl:al=false:=pC;obtain rfl:nm=[]:=h6;exact aI.decl8 (z _ Yl) h
 |9,_,c,h=>
  simp only[WC,decide_eq_true_eq] at c;obtain⟨⟨c,ap⟩,gB⟩:=c;obtain⟨g,j,h3,h4,h5,h6⟩:=ij c;dsimp only at g j h3 h4 h5 h6;obtain rfl:=yD (l:=rs) Yi;obtain rfl:=yD h3;obtain rfl:al=false:=pC;obtain rfl:nm=[]:=h6;exact aI.decl9 ap gB h
 |10,_,c,h=>
  obtain⟨g,j,h3,h4,h5,h6⟩:=ij c;dsimp only at g j h3 h4 h5 h6;obtain⟨x,rfl⟩:=va (l:=rs) Yi;obtain rfl:=yD h3;obtain rfl:b=0:=oh;obtain rfl:al=false:=pC;obtain rfl:nm=[]:=h6;exact aI.decl10 (z _ Yl) h
 |11,_,c,h=>
  obtain⟨g,j,h3,h4,h5,h6⟩:=ij c;dsimp only at g j h3 h4 h5 h6;obtain⟨x,rfl⟩:=va (l:=rs) Yi;obtain⟨n,rfl⟩:=va h3;obtain rfl:b=0:=oh;obtain rfl:nm=[]:=h6;cases al with
  |false=>exact aI.decl11f (z _ Yl) h
  |true=>exact aI.decl11t (z _ Yl) h
 |12,_,c,h=>
  simp only[WC,decide_eq_true_eq] at c;obtain⟨⟨c,ap⟩,gB⟩:=c;obtain⟨g,j,h3,h4,h5,h6⟩:=ij c;dsimp only at g j h3 h4 h5 h6;obtain⟨x,rfl⟩:=va (l:=rs) Yi;obtain⟨n,rfl⟩:=va h3;obtain rfl:al=false:=pC;obtain rfl:nm=[]:=h6;exact aI.decl12 (z _ Yl) Yi h
 |13,_,c,h=>
  obtain⟨g,j,h3,h4,h5,h6⟩:=ij c;dsimp only at g j h3 h4 h5 h6;obtain rfl:=yD h3;obtain rfl:b=0:=oh;obtain rfl:al=false:=pC;obtain rfl:nm=[]:=h6
  match rs,g,j,z,h with
  |x::rs,g,j,z,h=>exact aI.decl13 (z _ Yl) (by rintro rfl;simp at g) (λw C=>z w (by simp[C])) (by simp at j;omega) h
 |14,_,c,h=>
  obtain⟨g,j,h3,h4,h5,h6⟩:=ij c;dsimp only at g j h3 h4 h5 h6;obtain⟨x,y,rfl⟩:=Qc (l:=rs) Yi;obtain rfl:=yD h3;obtain rfl:b=0:=oh;obtain rfl:al=false:=pC;obtain rfl:nm=[]:=h6;exact aI.decl14 (z _ Yl) (z _ Yl) h
 |15,_,c,h=>
  obtain⟨g,j,h3,h4,h5,h6⟩:=ij c;dsimp only at g j h3 h4 h5 h6;obtain rfl:=yD (l:=rs) Yi;obtain⟨n,rfl⟩:=va h3;obtain rfl:b=0:=oh;obtain rfl:al=false:=pC;obtain rfl:nm=[]:=h6;exact aI.decl15 h
 |16,_,c,h=>obtain⟨g,j,h3,h4,h5,h6⟩:=ij c;dsimp only at g j h3 h4 h5 h6;obtain⟨x,rfl⟩:=va (l:=rs) Yi;obtain⟨n,rfl⟩:=va h3;obtain rfl:b=0:=oh;obtain rfl:al=false:=pC;obtain rfl:nm=[]:=h6;exact aI.decl16 (z _ Yl) h
def ev7 (d:au): ∃l,fH d=tW (rules.getD d.kind ([],[])).1::l/\1<=l.length:=⟨_,rfl,by simp⟩
def aI.len {p:PS} {x:List cZ} {d:au} (h:aI p x d):p.ts.length=x.length:=by rw[<-h.2.1,WF]
def ev8 (w:ak):(tW w).1≠0:=by unfold tW;dsimp only;split<;>decide
def aI.head {p:PS} {x:cZ} {r:List cZ} {d:au} (h:aI p (x::r) d):p.head.kind=x.1:=by
 obtain⟨t,l,ht,h1,_⟩:=h.cons;have c:p.head=t:=by simp[PS.head,ht]
 rw[c,h1]
def au6 (e:cZ) (y:e.1=0): ∀(ds:List au) (p:PS) (out:List au) (c:au),(∀d∈ds,bx d=Wz)->out.length+ds.length<=1024->
 aI p ((ds.map fH).flatten++[e]) c->kN p out= .ok (out++ds)
 |[],p,out,c,_,_,h=>by
  have j:p.head.kind=0:=by rw[aI.head (r:=[]) h,y]
  rw[kN,if_pos j,XT]
 |d::ds,p,out,c,hv,hn,h=>by
  have g:aI p (fH d++((ds.map fH).flatten++[e])) c:=zi;obtain⟨l,hl,dt⟩:=ev7 d;have j:p.head.kind≠0:=by rw[hl] at g;rw[aI.head g];exact ev8 _
  obtain⟨h1,h2⟩:=aI.decl_valid (hv d Yl) g;have A:out.length≠1024:=Kk;have z:p.decl.1.ts.length<p.ts.length:=by rw[h1.len,g.len,hl];simp only[WG,Xg];omega
  have C:=au6 e y ds p.decl.1 (out++[d]) d (λx hx=>hv x zk) (by simp at hn⊢;omega) h1;rw[kN,if_neg j];simp only[if_neg A];rw[if_neg (by rw[h1.1];simp),dif_pos z,h2,C];simp
def ev9 (len:Nat):gJ len (bV [])= .ok [⟨0,[],0,len⟩]:=by
 have:bV []=[]:=by rw[bV];rfl
 rw[this,gJ]
def ew0 (ds:List au) (c: ∀d∈ds,bx d=Wz) (g:ds.length<=1024) (j:(aE (ds.map cU)).length<=16384):lC (aE (ds.map cU))= .ok ds:=by obtain⟨l,h1,h2⟩:=au1 ds [] (aE (ds.map cU)).length c;rw[XT,ev9] at h2;unfold lC nC;rw[if_neg Yi,h2];show kN ⟨l++[_],0,{}⟩ []=_;have:=au6 (0,[],0) rfl ds ⟨l++[⟨0,[],0,(aE (ds.map cU)).length⟩],0,{}⟩ [] {} c (by simpa using g) ⟨rfl,by simp[h1,e_.strip],rfl⟩;simpa using this
end
section
open Go Go.RowKit Go.Sort Go.Proofs.Tryz
def az1 (W:Wu) (os:Array Obj):Below W W (Go.Sort.grow W os):=⟨rfl,rfl,rfl,by simp,λk c=>Go.Sort.heap_grow_old _ _ c⟩
def aa4:Fence:={fn:=λ_=>True}
def az2 (k:Nat):aa4.room k:=λd c=>by cases c
def fg8 (g:Nat) (h:Wv) (c:List ByteArray) (y:c.length<=1000000) (w:Wu) (C:g<w.heap.size)
 (z:w.cell? g=Ws h) (A:Sl w w h (c.map (WM))):
 WJ WH 289 #[Yb Wr 0 0,.func (.func 207) #[] #[Yf (Ws g)]] w λe j=> ∃v,e=Xz v/\j.ownsRow w.heap.size 9 1 v c.length (c.map (WM))/\Below w w j:=
 (fg6 aa4 3 trivial trivial rfl (ag _) g h c y w C z A).calls az2
def fg9 (g:Nat) (j:Wv) (c:List ByteArray) (F:c.length<=1000000) (w:Wu) (C:g<w.heap.size)
 (z:w.cell? g=Ws j) (A:Sl w w j (c.map (WM))):
 WJ WH 205 #[.func (.func 207) #[] #[Yf (Ws g)]] w λe y=> ∃v,e=Xz v/\y.ownsRow w.heap.size 9 1 v c.length (c.map (WM))/\Below w w y:=by
 have D:=aa (fg8 g j c F w C z A);clear A z C;go_enter func205,ntmps205;go_wp2_with(go_at_call 289;refine D.out.m ?_;rintro e I ⟨v,rfl,ho,G⟩)
 go_ret;exact⟨v,rfl,ho,G⟩
def fh0 (D:Nat) (O:Wv) (j:List ByteArray) (b_:j.length<=1000000) (w:Wu) (Z:D<w.heap.size)
 (X:w.cell? D=Ws O) (Y:Sl w w O (j.map (WM))):
 WJ WH 139 #[.func (.func 207) #[] #[Yf (Ws D)]] w λe V=> ∃v,e=Xz v/\V.ownsRow w.heap.size 9 1 v j.length (((j.map (·.data.toList)).mergeSort λx y=>Wt (x<=y)).map Go.Proofs.encStr)/\Below w w V:=by
 have F:=aa (fg9 D O j b_ w Z X Y);clear Y X Z;by_cases J:j.length=0
 .have hz:j=[]:=List.length_eq_zero_iff.1 J;subst hz
  have A:=aa (fun(p:Option X8) c W=>slices_Sort_string_none p c W);go_enter func139,ntmps139;go_wp2_with first
   |(go_at_call 205;refine F.out.m ?_;rintro e w2 ⟨v,rfl,ho,z⟩;obtain⟨p,c,rfl⟩: ∃p c,v= .slice p 0 c:=by
      rcases ho.2 with ⟨C,_⟩|⟨g,cap,I,C,_⟩
      .exact⟨Wr,0,C⟩
      .exact⟨_,_,C⟩
     have HO:=aa ho;have HB:=aa z;clear ho z)
   |(go_at_call 206;refine(A.out _ _ _).m ?_;rintro e w3 ⟨rfl,rfl⟩)
  go_ret;refine⟨_,rfl,?_,HB.out⟩;have e:((([]:List ByteArray).map (·.data.toList)).mergeSort λx y=>Wt (x<=y))=[]:=Yl;rw[e];exact HO.out
 .have A:=aa (λb c W (G:Go.Sort.Holds Go.Proofs.encStr W b 0 (j.map (·.data.toList)).toArray) (z:b<W.heap.size)=>slices_Sort_string b 0 c (j.map (·.data.toList)) W G z (by first|omega|(simp;omega)));have HL:=aa (show((j.map (·.data.toList)).mergeSort λx y=>decide (x<=y)).length=j.length by simp)
  generalize ((j.map (·.data.toList)).mergeSort λx y=>Wt (x<=y))=ss at A HL;have HZ:=aa (show j.map (WM)=(j.map (·.data.toList)).map Go.Proofs.encStr from(Go.Lib.map_encStr j:_).symm);rw[HZ.out] at F;have U:=aa (show(j.map (·.data.toList)).length=j.length by simp);rw[U.out] at A;generalize j.length=n at F A HL U J;go_enter func139,ntmps139;go_wp2_with first
   |(go_at_call 205;refine F.out.m ?_;rintro e w2 ⟨v,rfl,ho,z⟩;obtain⟨g,cap,rfl,gL,oH,gT,ck1,ck2,G⟩:=Go.Lib.holds_of_ownsRow ho (by
      intro e;have:=ho.2;rw[e] at this;rcases this with ⟨_,h1⟩|⟨g,cap,I,C,_⟩
      .exact J h1
      .cases C)
     have HO:=aa ho;have HB:=aa z;have HH:=aa G;clear ho z G)
   |(go_at_call 206;refine(A.out _ _ _ HH.out oH).m ?_;rintro e w3 ⟨rfl,q,os,rfl⟩)
  exact bg9
def fh1 (g:Nat) (h:Wv) (c:List Int) (y:c.length<=1000000) (w:Wu) (C:g<w.heap.size)
 (z:w.cell? g=Ws h) (A:Sl w w h (c.map (WK .i64))):
 WJ WH 292 #[Yb Wr 0 0,.func (.func 210) #[] #[Yf (Ws g)]] w λe j=> ∃v,e=Xz v/\j.ownsRow w.heap.size 3 1 v c.length (c.map (WK .i64))/\Below w w j:=
 (fg7 aa4 3 trivial trivial rfl (ag _) g h c y w C z A).calls az2
def fh2 (g:Nat) (j:Wv) (c:List Int) (F:c.length<=1000000) (w:Wu) (C:g<w.heap.size)
 (z:w.cell? g=Ws j) (A:Sl w w j (c.map (WK .i64))):
 WJ WH 208 #[.func (.func 210) #[] #[Yf (Ws g)]] w λe y=> ∃v,e=Xz v/\y.ownsRow w.heap.size 3 1 v c.length (c.map (WK .i64))/\Below w w y:=by
 have D:=aa (fh1 g j c F w C z A);clear A z C;go_enter func208,ntmps208;go_wp2_with(go_at_call 292;refine D.out.m ?_;rintro e I ⟨v,rfl,ho,G⟩)
 go_ret;exact⟨v,rfl,ho,G⟩
def bh0 (D:Nat) (O:Wv) (j:List Int) (b_:j.length<=1000000) (w:Wu) (Z:D<w.heap.size)
 (X:w.cell? D=Ws O) (Y:Sl w w O (j.map (WK .i64))):
 WJ WH 142 #[.func (.func 210) #[] #[Yf (Ws D)]] w λe V=> ∃v,e=Xz v/\V.ownsRow w.heap.size 3 1 v j.length ((j.mergeSort λx y=>Wt (x<=y)).map (WK .i64))/\Below w w V:=by
 have F:=aa (fh2 D O j b_ w Z X Y);clear Y X Z;by_cases J:j.length=0
 .have hz:j=[]:=List.length_eq_zero_iff.1 J;subst hz
  have A:=aa (fun(p:Option X8) c W=>slices_Sort_int_none p c W);go_enter func142,ntmps142;go_wp2_with first
   |(go_at_call 208;refine F.out.m ?_;rintro e w2 ⟨v,rfl,ho,z⟩;obtain⟨p,c,rfl⟩: ∃p c,v= .slice p 0 c:=by
      rcases ho.2 with ⟨C,_⟩|⟨g,cap,I,C,_⟩
      .exact⟨Wr,0,C⟩
      .exact⟨_,_,C⟩
     have HO:=aa ho;have HB:=aa z;clear ho z)
   |(go_at_call 209;refine(A.out _ _ _).m ?_;rintro e w3 ⟨rfl,rfl⟩)
  go_ret;refine⟨_,rfl,?_,HB.out⟩;have e:(([]:List Int).mergeSort λx y=>Wt (x<=y))=[]:=Yl;rw[e];exact HO.out
 .have A:=aa (λb c W (G:Go.Sort.Holds (Value.int .i64) W b 0 j.toArray) (z:b<W.heap.size)=>slices_Sort_int b 0 c j W G z (by first|omega|(simp;omega)));have HL:=aa (show(j.mergeSort λx y=>decide (x<=y)).length=j.length by simp)
  generalize (j.mergeSort λx y=>Wt (x<=y))=ss at A HL;have HZ:=aa (show j.map (WK .i64)=j.map (WK .i64) from(rfl:_).symm);rw[HZ.out] at F;have U:=aa (show j.length=j.length by simp);rw[U.out] at A;generalize j.length=n at F A HL U J;go_enter func142,ntmps142;go_wp2_with first
   |(go_at_call 208;refine F.out.m ?_;rintro e w2 ⟨v,rfl,ho,z⟩;obtain⟨g,cap,rfl,gL,oH,gT,ck1,ck2,G⟩:=Go.Lib.holds_of_ownsRow ho (by
      intro e;have:=ho.2;rw[e] at this;rcases this with ⟨_,h1⟩|⟨g,cap,I,C,_⟩
      .exact J h1
      .cases C)
     have HO:=aa ho;have HB:=aa z;have HH:=aa G;clear ho z G)
   |(go_at_call 209;refine(A.out _ _ _ HH.out oH).m ?_;rintro e w3 ⟨rfl,q,os,rfl⟩)
  exact bg9
end
section
open Go Go.RowKit Go.Proofs.Tryz
def oC (d:au):Nat:=(d.refs.map List.length).sum
def oZ (l:List e_):Nat:=(l.map λt=>t.text.length).sum
def PS.z (p:PS):Nat:=oC p.d+oZ p.ts
def PS.fail_z (p:PS) (e:Nat):(p.fail e).z=p.z:=TM
def fq8 (l:List e_) (t:e_):(l.headD t).text.length+oZ l.tail<=oZ l+t.text.length:=by
 cases l with
 |nil=>simp[oZ]
 |cons a l=>simp[oZ]
def PS.take_z (p:PS) (k:Nat) (l:List ak):(p.take k l).2.text.length+oZ (p.take k l).1.ts<=oZ p.ts/\(p.take k l).1.d=p.d:=by
 unfold PS.take;split
 .refine⟨?_,?_⟩
  .show 0+oZ (p.fail 3).ts<=_;rw[PS.fail_ts];omega
  .show(p.fail 3).d=p.d;unfold PS.fail;split<;>rfl
 .refine⟨?_,rfl⟩;have:=fq8 p.ts ⟨0,[],0,0⟩;exact this
def PS.take_z' (p:PS) (k:Nat) (l:List ak):(p.take k l).1.z<=p.z:=by obtain⟨h1,h2⟩:=p.take_z k l;unfold PS.z;rw[h2];omega
def PS.comma_z (p:PS):p.comma.1.z<=p.z:=by
 unfold PS.comma;split
 .exact ag _
 .exact p.take_z' 4 []
def PS.ref_z (p:PS):p.ref.z<=p.z:=by obtain⟨h1,h2⟩:=p.take_z 1 [];unfold PS.ref PS.z oC;simp only[h2,Xb,List.sum_append,WO,XS,List.sum_cons,List.sum_nil];omega
def PS.listGo_z (n:Nat) (p:PS):(p.listGo n).z<=p.z:=by
 fun_induction PS.listGo n p with
 |case1 n p h g=>
  refine bo g (bo (PS.ref_z _) ?_);split
  .rw[PS.fail_z];exact p.comma_z
  .exact p.comma_z
 |case2 n p h=>exact p.comma_z
def PS.set_z (p:PS) (k:Nat) (l:List ak) (f:au->e_->au) (c: ∀d t,(f d t).refs=d.refs):({(p.take k l).1 with d:=f (p.take k l).1.d (p.take k l).2}:PS).z<=p.z:=by obtain⟨h1,h2⟩:=p.take_z k l;unfold PS.z oC;simp only[c,h2];omega
def PS.classGo_z: ∀(n:Nat) (left:List ak) (p:PS),p.ts.length<n->(p.classGo left).z<=p.z:=by
 intro n;induction n with
 |zero=>intro left p h;omega
 |succ n ih=>
  intro left p A;rw[PS.classGo];split
  .rw[PS.fail_z];exact ag _
  .have j:=p.set_z 2 left (λd t=>{d with by_:=d.by_+fM t.text}) λ_ _=>rfl;have g:=PS.comma_z ({(p.take 2 left).1 with d:={(p.take 2 left).1.d with by_:=(p.take 2 left).1.d.by_+fM (p.take 2 left).2.text}}:PS);simp only;split
   .rename_i h;have y:=PS.comma_lt _ h;have z:=PS.take_le p 2 left;exact bo (ih _ _ (bq y (bo z Yi))) (bo g j)
   .exact bo g j
def PS.part_z (p:PS) (x:jZ):(p.part x).z<=p.z:=by
 cases x with
 |name=>exact p.set_z 1 [] (λd t=>{d with name:=t.text}) λ_ _=>rfl
 |ref=>exact p.ref_z
 |number=>exact p.set_z 3 [] (λd t=>{d with nums:=d.nums++[t.n]}) λ_ _=>rfl
 |list=>exact bo (PS.listGo_z 1 p.ref) p.ref_z
 |classes=>exact PS.classGo_z _ _ p (XQ _)
 |domain=>exact p.set_z 2 [fe,fq,jB] (λd t=>{d with by_:=iP t.text}) λ_ _=>rfl
 |alw=>
  show(PS.alw p).z<=_;unfold PS.alw;split
  .exact p.set_z 2 [] (λd t=>{d with always:=Wz}) λ_ _=>rfl
  .exact ag _
 |word s=>exact p.take_z' 2 [s]
def PS.parts_z: ∀(l:List jZ) (p:PS),(p.parts l).z<=p.z
 |[],p=>ag _
 |x::l,p=>by
  refine bo (PS.parts_z l _) ?_;split
  .exact p.part_z x
  .exact ag _
def PS.decl_z (p:PS):oC p.decl.2+oZ p.decl.1.ts<=oZ p.ts:=by
 unfold PS.decl;split
 .show oC {}+oZ (p.fail 3).ts<=_;rw[PS.fail_ts];show 0+_<=_;omega
 .rename_i i _;obtain⟨h1,h2⟩:=p.take_z 2 [];have g:=PS.take_z' (({(p.take 2 []).1 with d:={kind:=i}}:PS).parts (rules.getD i ([],[])).2) 4 [[59]];have j:=PS.parts_z (rules.getD i ([],[])).2 ({(p.take 2 []).1 with d:={kind:=i}}:PS);have y:({(p.take 2 []).1 with d:={kind:=i}}:PS).z=oZ (p.take 2 []).1.ts:=by show oC {kind:=i}+_=_;exact Nat.zero_add _
  have z:=bo g (bo j (Nat.le_of_eq y));exact bo z Yi
def fq9: ∀(n:Nat) (p:PS) (out l:List au),p.ts.length<=n->kN p out= .ok l->(l.map oC).sum<=(out.map oC).sum+oZ p.ts:=by
 intro n;induction n with
 |zero=>
  intro p out l g h;have j:p.ts=[]:=X7 Yi;rw[kN] at h;have:p.head.kind=0:=by unfold PS.head;rw[j];rfl
  rw[if_pos this] at h;injection h with h;subst h;omega
 |succ n ih=>
  intro p out l g h;rw[kN] at h;split at h
  .injection h with h;subst h;omega
  .by_cases c:out.length=1024
   .simp only[if_pos c,PS.fail_ts,Nat.lt_irrefl,dif_neg,not_false_eq_true] at h;split at h
    .cases h
    .injection h with h;subst h;omega
   .simp only[if_neg c] at h;have A:=p.decl_z;have z:((out++[p.decl.2]).map oC).sum=(out.map oC).sum+oC p.decl.2:=by simp
    split at h
    .cases h
    .split at h
     .rename_i y;have:=ih p.decl.1 (out++[p.decl.2]) l Yi h;omega
     .injection h with h;subst h;omega
def fr0 {s:ak} {k:Nat} {t:ak} {n:Nat} (h:tok s= .ok (k,t,n)):t.length<=s.length:=by
 have tw (p:UInt8->Bool) (s:ak):(s.takeWhile p).length<=s.length:=(List.takeWhile_sublist p).length_le;unfold tok at h;split at h
 .cases h
 .split at h
  .unfold Aj at h;simp only at h;split at h
   .cases h
   .split at h<;>(injection h with h;injection h with g c;injection c with c j;subst c;exact tw _ _)
  .split at h
   .unfold yK at h;simp only at h;split at h
    .cases h
    .split at h
     .cases h
     .injection h with h;injection h with g c;injection c with c j;subst c;exact tw _ _
   .split at h
    .injection h with h;injection h with g c;injection c with c j;subst c;simp
    .cases h
def fr1 (len:Nat) (s:ak): ∀ts,gJ len s= .ok ts->oZ ts<=s.length:=by
 fun_induction gJ len s with
 |case1=>intro ts h;injection h with h;subst h;simp[oZ]
 |case2=>intro ts h;cases h
 |case3 c r k t n he ih=>
  intro ts h;have z:=fr0 he;cases hr:gJ len (bV (r.drop (t.length - 1))) with
  |error x=>rw[hr] at h;cases h
  |ok l=>
   rw[hr] at h;injection h with h;subst h;have j:=ih l hr;have y:=Db (r.drop (t.length - 1));have g:oZ (⟨k,t,n,len - (r.length+1)⟩::l)=t.length+oZ l:=by simp[oZ]
   rw[g];simp only[Xc,Xg] at*
   omega
def fr2 {s:ak} {l:List au} (h:lC s= .ok l):(l.map oC).sum<=s.length:=by
 unfold lC at h;split at h
 .cases h
 .rename_i ts c;have g:=fq9 _ _ _ _ (ag _) h;unfold nC at c;split at c
  .cases c
  .have j:=fr1 _ _ _ c;have y:=Db s;simp only[XS,List.sum_nil] at g;omega
end
end Go.Proofs.YtklfdkdebgfmiaaGreatDoor
