/- A part of the proof. -/
import Derived.Test.YtklfdkdebgfmiaaGreatDoorQbd
set_option linter.defProp false
set_option linter.unusedVariables false
set_option linter.unusedSimpArgs false
set_option maxRecDepth 100000
set_option maxHeartbeats 32000000
open Option renaming none->Wr,some->Ws
open Decidable renaming decide->Wt
open Go renaming World->Wu,Value->Wv,Calls->WJ,TypeId->WQ,maxLen->Xe,undef->XE,Addr->X8
open Bool renaming false->Ww,true->Wz
open List renaming range->Xs
open Go.RowKit renaming Hid->WA
open Go.Lib renaming itoa->WB,decDigits->WV,split->Xh,countB->XM
open Go.Proofs renaming intOf->WS
open Go.Proofs.Tryz renaming prog->WH
open Go.Value renaming int->WK,string->WM,oneCell'->Xp,slice->Yb,bool->Yc,agg->Ye,pointer->Yf
open Go.IntKind renaming i64->Xr
open Go.Ending renaming returned->Xz
open Go.Obj renaming cells->Yd
open Go.Operand renaming tmp->Yg,const->Yh
namespace Go.Proofs.YtklfdkdebgfmiaaGreatDoor
section
open Go Go.RowKit Go.Proofs.Tryz
def ds9 (s:ByteArray) (w:Wu) (C:s.size<=16384) (g:0<s.size):WJ WH 190 #[s] w (LT w (yK s.data.toList)):=by
 have j:gd bT s=(s.data.toList.takeWhile bT).length:=rfl;have y:=YE gy s (s.data.toList.takeWhile bT).length;have I:=ds2 g;have O:yK s.data.toList=if(1<(s.data.toList.takeWhile bT).length/\s.data.toList.head?=Ws 48)\/((s.data.toList.drop (s.data.toList.takeWhile bT).length).takeWhile gy)≠[] then .error 3 else Fd (s.data.toList.takeWhile bT):=rfl
 rw[O];obtain⟨t,LI⟩: ∃t,s.data.toList.takeWhile bT=t:=⟨_,rfl⟩;rw[LI] at j y⊢
 obtain⟨r,hr⟩: ∃r,(s.data.toList.drop t.length).takeWhile gy=r:=⟨_,rfl⟩;rw[hr] at y⊢
 by_cases c:1<t.length/\s[0]=48
 .rw[if_pos (.inl ⟨c.1,by rw[I,c.2]⟩)];exact(ds4 s w C g t.length j c.1 c.2).mono λe w' ⟨A,z⟩=>⟨z,A⟩
 .have D: ¬(1<t.length/\s.data.toList.head?=some 48):=by
   rw[I];rintro ⟨a,b⟩;injection b with b;exact c ⟨a,b⟩
  by_cases G:r=[]
  .subst G;rw[if_neg (by rintro (h|h);exact D h;exact h rfl),<-LI];by_cases F:t.length<=1
   .exact ds7 s w C g t.length 0 j y F rfl
   .exact ds8 s w C g t.length 0 j y Yi (λe=>c ⟨by omega,e⟩) rfl
  .rw[if_pos (.inr G)];have J:r.length≠0:=λe=>G (List.eq_nil_of_length_eq_zero e);by_cases F:t.length<=1
   .exact(ds5 s w C g t.length _ j y F J).mono λe w' ⟨A,z⟩=>⟨z,A⟩
   .exact(ds6 s w C g t.length _ j y Yi (λe=>c ⟨by omega,e⟩) J).mono λe w' ⟨A,z⟩=>⟨z,A⟩
def ju.at_ {w:Wu} {g:Nat} {caps:Array Wv} {p:UInt8->Bool} (h:ju w (bm g caps) p):(∀args w,(callFunc g args).run WH w= .ok (.enter g args) w)/\
 ∀(c:UInt8),aQ g (#[.int .u8 c.toNat]++caps) w (Yc (p c)):=by
 obtain⟨g',caps',h1,h2,h3⟩:=h.ex;unfold bm at h1;injection h1 with a b c;injection a with a;subst a c;exact⟨h2,λc=>h3 w c (af w)⟩
def dt0 (s:ByteArray) (w:Wu) (hG:fD w) (A:s.size<=16384) (h0:0<s.size):
 WJ WH 115 #[s] w (LT w (tok s.data.toList)):=by
 have HG:=aa hG;have Bb:(0:Int)<s.size:=Yi;have ha3:(1:Int)<=s.size:=Yi;have HX:Hid (s.data.toList=s[0]::s.data.toList.drop 1):=by have:=List.drop_eq_getElem_cons (l:=s.data.toList) (i:=0) (by rw[j5];exact h0);rw[List.drop_zero] at this;exact this
 have HW:=aa (λW (hg:fD W)=>ds1 s W hg A);have HN:=aa (λW=>ds9 s W A h0);have HE:Hid (s.extract 0 1=bs [s[0]]):=by show _=_;rw[<-nB (s.extract 0 1)];congr 1;simp[ByteArray.data_extract];rw[HX.out];rfl
 obtain⟨c,hc⟩: ∃c,s[0]=c:=⟨_,rfl⟩;have HT:Hid (tok s.data.toList=if kL c then Aj s.data.toList else if bT c then yK s.data.toList else if c=59\/c=44 then .ok (4,[c],0) else .error 3):=by
  have:=HX.out;rw[hc] at this;show tok _=_
  conv=>lhs;rw[this]
  rw[tok,<-this]
 rw[hc] at HE;have HC:=aa hc;clear hG hc;go_enter func115,ntmps115;go_wp2_with(go_at_call_of 188 (WK IntKind.u8 97);refine(Py _).m ?_;rintro e w1 ⟨g1,c1,rfl,me,U⟩;have c_:=ai (ae (af w) _) U;obtain⟨e1,k1⟩:=me.at_;have vE:=aa k1;clear k1 me)
 have rX:=aa (aq (bQ w _) U);refine(vE.out s[0]).m ?_;rintro e w2 ⟨rfl,O⟩;rw[HC.out];have G:=ai c_ O;have Z:=aa (aq rX.out O);clear U O rX c_ vE e1;cases hl:kL c with
 |true=>
  have D:Hid (tok s.data.toList=Aj s.data.toList):=by rw[Hid,HT.out,if_pos hl]
  clear hl;go_wp2_with fail
  refine(HW.out w2 (HG.out.step G)).m ?_;rintro e w3 ⟨z,j⟩;have ik:=ai G z;have g:=aq Z.out z;have hz:=blk_lt g;obtain⟨f0,f1,f2,f3⟩:=Ak g;have c0:=ah (o:=0) g rfl;have c1:=ah (o:=1) g rfl;have c2:=ah (o:=2) g rfl;have c3:=ah (o:=3) g rfl;clear z g;cases hw:Aj s.data.toList with
  |error x=>
   rw[hw] at j D;simp only at j;subst j;clear hw;unfold jx;go_wp2_with fail
   refine ad3 ?_;rw[D.out];exact PC
  |ok y=>
   obtain⟨k,t,m⟩:=y;rw[hw] at j D;simp only at j;subst j;clear hw;unfold jx;go_wp2_with fail
   refine bodyPost_ret (v:= .tuple #[jx k t m 0,WK Xr 0]) N_ rfl ?_;rw[D.out];exact PC
 |false=>
  have D:Hid (tok s.data.toList=if bT c then yK s.data.toList else if c=59\/c=44 then .ok (4,[c],0) else .error 3):=by rw[Hid,HT.out,if_neg (by simp[hl])]
  clear hl;go_wp2_with(go_at_call_of 188 (WK IntKind.u8 48);refine(Fc _).m ?_;rintro e w3 ⟨g3,c3,rfl,oE,z⟩;obtain⟨e3,k3⟩:=oE.at_;have mJ:=aa k3;clear k3 oE)
  refine(mJ.out c).m ?_;rintro e w4 ⟨rfl,J⟩;have Y:=ai (ai G z) J;have I:=aa (aq (aq Z.out z) J);clear z J Z G mJ e3;cases hd:bT c with
  |true=>
   have rR:Hid (tok s.data.toList=yK s.data.toList):=by rw[Hid,D.out,if_pos hd]
   clear hd;go_wp2_with fail
   refine(HN.out w4).m ?_;rintro e w5 ⟨z,j⟩;have ik:=ai Y z;have g:=aq I.out z;have hz:=blk_lt g;obtain⟨f0,f1,f2,f3⟩:=Ak g;have c0:=ah (o:=0) g rfl;have c1:=ah (o:=1) g rfl;have c2:=ah (o:=2) g rfl;have c3:=ah (o:=3) g rfl;clear z g;cases hw:yK s.data.toList with
   |error x=>
    rw[hw] at j rR;simp only at j;subst j;clear hw;unfold jx;go_wp2_with fail
    refine ad3 ?_;rw[rR.out];exact PC
   |ok y=>
    obtain⟨k,t,m⟩:=y;rw[hw] at j rR;simp only at j;subst j;clear hw;unfold jx;go_wp2_with fail
    refine bodyPost_ret (v:= .tuple #[jx k t m 0,WK Xr 0]) N_ rfl ?_;rw[rR.out];exact PC
  |false=>
   have rR:Hid (tok s.data.toList=if c=59\/c=44 then .ok (4,[c],0) else .error 3):=by rw[Hid,D.out,if_neg (by simp[hd])]
   clear hd;go_wp2_with(go_at_call 186;refine(dr9 _).m ?_;rintro e w5 ⟨g5,c5,rfl,CB,X⟩;obtain⟨e5,k5⟩:=CB.at_;have eI:=aa k5;clear k5 CB)
   refine(eI.out c).m ?_;rintro e w6 ⟨rfl,V⟩;have tk:=ai (ai Y X) V;have C:=aq (aq I.out X) V;have hz:=blk_lt C;obtain⟨f0,f1,f2,f3⟩:=Ak C;have c0:=ah (o:=0) C rfl;have c1:=ah (o:=1) C rfl;have c2:=ah (o:=2) C rfl;have c3:=ah (o:=3) C rfl;clear X V I C Y eI e5;by_cases A:c=59\/c=44
   .have F:(c==59||c==44)=true:=by simpa using A
    rw[F];rw[if_pos A] at rR;clear A F;go_wp2_with fail
    refine bodyPost_ret (v:= .tuple #[jx 4 [c] 0 0,WK Xr 0]) (by simp[results,results115,go_sem,jx,HE.out,c0,c1,c2,c3,hz]) rfl ?_;exact ad4
   .have F:(c==59||c==44)=false:=by simpa using A
    rw[F];rw[if_neg A] at rR;clear A F;go_wp2_with fail
    refine bodyPost_ret (v:= .tuple #[jx 0 [] 0 0,WK Xr 3]) N_ rfl ?_;exact ad4
def Fj (d:Nat) (h:d<10):(UInt8.ofNat (48+d)).toNat=48+d:=by rw[UInt8.toNat_ofNat'];omega
def am2: ∀(n u:Nat) (r:List UInt8),u<=n->u<18446744073709551616->Lib.parseUint10 0 (WV u++r)=Lib.parseUint10 u r
 |0,u,r,hn,_=>by have:u=0:=Yi;subst this;rw[WV,dif_pos Yi];rfl
 |n+1,u,r,hn,hu=>by
  rw[WV];by_cases c:u<10
  .rw[dif_pos c];show Lib.parseUint10 0 (UInt8.ofNat (48+u)::r)=_;rw[Lib.parseUint10,Fj u c,if_pos Yi,if_neg Yi,if_neg Yi];congr 1;omega
  .rw[dif_neg c,Xd,am2 n (u / 10) _ Yi Yi];show Lib.parseUint10 (u / 10) (UInt8.ofNat (48+u%10)::r)=_;rw[Lib.parseUint10,Fj (u%10) Yi,if_pos Yi,if_neg Yi,if_neg Yi];congr 1;omega
def MR (u:Nat):WV u≠[]:=by rw[WV];split<;>simp
def am3 (u:Nat) (c:u<18446744073709551616):Lib.parseMag (WV u)= .ok u:=by unfold Lib.parseMag;rw[if_neg (MR u)];have:=am2 u u [] (ag _) c;rw[XT] at this;rw[this];rfl
def Fk: ∀(n u:Nat),u<=n->∀c∈WV u,48<=c.toNat/\c.toNat<=57
 |0,u,hn,c,g=>by have:u=0:=Yi;subst this;rw[WV,dif_pos Yi] at g;simp at g;subst g;decide
 |n+1,u,hn,c,g=>by
  rw[WV] at g;by_cases j:u<10
  .rw[dif_pos j] at g;have:c=UInt8.ofNat (48+u):=by simpa using g
   subst this;rw[Fj u j];omega
  .rw[dif_neg j] at g;rcases List.mem_append.1 g with h|h
   .exact Fk n (u / 10) Yi c h
   .have:c=UInt8.ofNat (48+u%10):=by simpa using h
    subst this;rw[Fj _ Yi];omega
def dw3 (v:Int) (h:aK v):Lib.atoiAll (WB v)= .ok v:=by
 obtain⟨h1,h2⟩:=h;unfold WB;by_cases g:v<0
 .rw[if_pos g,Lib.atoiAll_minus,am3 _ (by omega)];show Lib.signed (.ok v.natAbs)=_;unfold Lib.signed;simp only
  rw[if_neg Yi];congr 1;omega
 .rw[if_neg g];cases hd:Lib.decDigits v.toNat with
  |nil=>exact absurd hd (MR _)
  |cons c r=>have j:=Fk v.toNat v.toNat (ag _) c (by rw[hd];simp);rw[Lib.atoiAll_plain c r Yi Yi,<-hd,am3 _ Yi];show Lib.signless (.ok v.toNat)=_;unfold Lib.signless;simp only;rw[if_neg Yi];congr 1;omega
def I0 (v:Int) (h:aK v):bL (bs (WB v))=Ws v:=by unfold bL;rw[gI,dw3 v h];simp
def I3 {s:ByteArray} {v:Int} (h:bL s=Ws v):bs (WB v)=s:=by
 unfold bL at h;split at h
 .split at h
  .injection h with h;subst h;assumption
  .cases h
 .cases h
def Fl: ∀(l:List Int),(∀x∈l,aK x)->dU (l.map λn=>bs (WB n))=Ws l
 |[],_=>rfl
 |v::r,h=>by
  rw[WO,dU,I0 v (h v Yl)];simp only
  rw[Fl r λx hx=>h x zk];rfl
def Qp: ∀{l:List ByteArray} {c:List Int},dU l=Ws c->c.map (λn=>bs (WB n))=l
 |[],c,h=>by simp[dU] at h;subst h;rfl
 |s::r,c,h=>by
  rw[dU] at h;split at h
  .cases h
  .rename_i v g;obtain⟨us,hu,rfl⟩:=Option.map_eq_some_iff.1 h;rw[WO,I3 g,Qp hu]
def rm (w:List UInt8):Prop:= ∀c∈w,c≠32
def MT (v:Int):rm (WB v):=by
 intro c g;unfold WB at g;split at g
 .rcases List.mem_cons.1 g with rfl|g
  .decide
  .intro e;subst e;have:=Fk _ _ (ag _) _ g;exact absurd this az
 .intro e;subst e;have:=Fk _ _ (ag _) _ g;exact absurd this az
def dw4 {s:ByteArray} (h:wU s=Wz):rm s.data.toList:=by intro c g e;subst e;rw[wU,Xo] at h;exact absurd (h _ g) az
def am4: ∀(w r:List UInt8),rm w->Lib.index (w++32::r) [32]=w.length
 |[],r,_=>by simp[Lib.index]
 |c::w,r,h=>by
  have j:c≠32:=h c Yl;have z:=am4 w r (λx hx=>h x zk);show Lib.index (c::(w++32::r)) [32]=_;rw[Lib.index,z];have y:([32]:List UInt8).isPrefixOf (c::(w++32::r))=false:=by simp[List.isPrefixOf,Ne.symm j]
  rw[y];have g:((w.length:Int)== -1)=false:=Yl;simp[g]
def am5: ∀(w:List UInt8),rm w->Lib.index w [32]= -1
 |[],_=>by simp[Lib.index]
 |c::w,h=>by
  have g:c≠32:=h c Yl;have y:=am5 w (λx hx=>h x zk);rw[Lib.index,y];have j:([32]:List UInt8).isPrefixOf (c::w)=false:=by simp[List.isPrefixOf,Ne.symm g]
  rw[j];simp
def am6 (w:List UInt8) (h:rm w):Xh w [32]=[w]:=by unfold Xh;rw[Lib.count_miss (am5 w h)];rfl
def am7 (w r:List UInt8) (h:rm w):Xh (w++32::r) [32]=w::Xh r [32]:=by
 have c:=am4 w r h;have e:(w++32::r).drop (w.length+1)=r:=by rw[List.drop_append];simp
 unfold Xh;rw[Lib.count_hit Yl c,Nat.add_comm,Lib.splitK,c];have g:((w.length:Int)== -1)=false:=Yl;simp only[g,WW,if_false,Int.toNat_natCast,WR,XF];rw[e];simp
def ah9 (w x:List UInt8) (r:List (List UInt8)):Lib.join (w::x::r) [32]=w++32::Lib.join (x::r) [32]:=by rw[Lib.join_cons,Lib.join_cons];simp[Lib.joinTail]
def ai0: ∀(w:List UInt8) (r:List (List UInt8)),(∀x∈w::r,rm x)->Xh (Lib.join (w::r) [32]) [32]=w::r
 |w,[],h=>by rw[Lib.join_one];exact am6 w (h w Yl)
 |w,x::r,h=>by rw[ah9,am7 w _ (h w Yl),ai0 x r λy hy=>h y Oc]
def CD: ∀(l:List UInt8),rm l\/∃w r,l=w++32::r/\rm w
 |[]=> .inl λc g=>by simp at g
 |c::l=>by
  by_cases g:c=32
  .subst g;exact .inr ⟨[],l,rfl,λc g=>by simp at g⟩
  .rcases CD l with h|⟨w,r,rfl,h⟩
   .exact .inl λx hx=>by
     rcases List.mem_cons.1 hx with rfl|hx
     .exact g
     .exact h x hx
   .exact .inr ⟨c::w,r,rfl,λx hx=>by
     rcases List.mem_cons.1 hx with rfl|hx
     .exact g
     .exact h x hx⟩
def ai1: ∀(n:Nat) (l:List UInt8),l.length<=n->∃w r,Xh l [32]=w::r/\Lib.join (w::r) [32]=l
 |n,l,hn=>by
  rcases CD l with h|⟨w,r,rfl,h⟩
  .exact⟨l,[],am6 l h,Lib.join_one _ _⟩
  .match n,hn with
   |0,hn=>simp at hn
   |n+1,hn=>obtain⟨x,q,h1,h2⟩:=ai1 n r Kk;exact⟨w,x::q,by rw[am7 w r h,h1],by rw[ah9,h2]⟩
def cW (s:ByteArray):List ByteArray:=Lib.splitB (bs [32]) 0 (XM s (bs [32])) s
def X' (s:ByteArray):(cW s).map (·.data.toList)=Xh s.data.toList [32]:=by unfold cW Xh;rw[Lib.splitB_data];simp[XM,gI]
def dw5 (l:List ByteArray):(l.map (·.data.toList)).map bs=l:=by
 rw[XB]
 conv=>rhs;rw[<-List.map_id l]
 exact List.map_congr_left λx _=>nB x
def dw6 (s:ByteArray):cW s=(Xh s.data.toList [32]).map bs:=by rw[<-X',dw5]
def ai2 (w:List UInt8) (r:List (List UInt8)) (h: ∀x∈w::r,rm x):cW (bs (Lib.join (w::r) [32]))=(w::r).map bs:=by rw[dw6,gI,ai0 w r h]
def I4 (s:ByteArray): ∃w r,cW s=w::r/\bs (Lib.join ((w::r).map (·.data.toList)) [32])=s:=by
 obtain⟨w,r,h1,h2⟩:=ai1 _ s.data.toList (ag _);have c:=X' s;rw[h1] at c
 match hs:cW s with
 |[]=>rw[hs] at c;simp at c
 |x::q=>exact⟨x,q,rfl,by rw[<-hs,X',h1,h2,nB]⟩
def as6 (m:aM) (v:MV) (n:Int) (w:Wu) (j:m.In w w v):
 aQ 309 #[Ye (m.cells v),n] w (Yc (aH n m.items.length)):=by
 obtain⟨_,_,_,_,_,⟨A,c,hi,h1,h2⟩,_⟩:=j.cells;have g:=aa (λW=>t7 n 1 m.items.length W);unfold aH;generalize aD n 1 (m.items.length:Nat)=r at g;rw[aM.cells_def,hi];clear j hi;go_enter func309,ntmps309;go_wp2_with(go_at_call 145;refine(g.out _).m ?_;rintro e y ⟨rfl,rfl⟩)
 go_ret;exact⟨rfl,by repeat' first|with_reducible exact af w|with_reducible refine ae ?_ _⟩
def P0 (v:Wv) (l:List Int) (n:Int) (w:Wu) (B:Nat) (h:aW w B v l):
 WJ WH 157 #[v,n] w λe w'=>e=Xz (Yc (Wt (n∈l)))/\w'=w:=by
 rcases Sl.cases_ h.1 with ⟨z,A,c,rfl,_⟩|⟨I,b,o,c,rfl,C,D,J,F⟩
 .have:l=[]:=by simpa using z
  subst this;refine(slices_Contains_int_empty A c _ w).mono λe w' ⟨g,y⟩=>⟨by rw[g];simp,y⟩
 .rw[List.length_map] at C I⊢
  refine(slices_Contains_int b o l.length c l n w Yl (by simp[Xe] at D;omega) (λj G=>F j _ (by simp[G]))).mono λe w' ⟨g,y⟩=>⟨?_,y⟩;rw[g];refine cE ?_;rw[WY Yl];rw[WU];simp
def aW.sk {w:Wu} {B:Nat} {v:Wv} {l:List Int} (h:aW w B v l):bW 1 (R1 (WK .i64)) w B v l:=h.1.k1
def aW.cell {w:Wu} {B n c:Nat} {A:Option X8} {l:List Int} (h:aW w B (Yb A n c) l) {j:Nat} {x:Int} (hx:l[j]? =Ws x): ∃b o,A=Ws ⟨b,o,Wr⟩/\b<B/\w.cell? ⟨b,o+j,Wr⟩=Ws (WK Xr x):=by exact an6
def aW.lits (W:Wu) (l:List Int) (hl: ∀x∈l,aK x) (c:l.length<=1000) (t:WQ):
 aW (W.alloc (Yd (l.map (WK .i64)).toArray t)) (W.alloc (Yd (l.map (WK .i64)).toArray t)).heap.size (Yb (Ws (W 0 Wr)) l.length l.length) l:=by
 exact ae2
def an7 (m:aM) (v:MV) (u:Wv) (l:List Int) (w:Wu) (Z:m.In w w v) (I:aW w w u l):
 aQ 231 #[Ye (m.cells v),u] w (Yc (ff m l)):=by
 obtain⟨⟨Sa,sc,hs,_,_⟩,⟨Fa,fc,hf,_,_⟩,⟨Ra,rc,hr,_,_⟩,⟨Ma,mc,hm,dd,cz⟩,_⟩:=Z.cells;obtain⟨A,n,c,rfl,hn,hc,iG⟩:=I.sk.form;have V:=aa I;have HN:=aa hn;have HW:=aa (λx W=>t7 x 1 m.machs.length W);have z:Hid (ff m l=(ep (yA m.machs.length l) l.length&&Wt (0<l.length))):=by show _=_;rw[<-as4];rfl
 generalize ff m l=r at z;rw[aM.cells_def,hs,hf,hr,hm];clear Z I hn hs hf hr hm;go_enter func231,ntmps231;go_wp2_with fail
 go_loopw [9] (λi wr=> ∃k:Nat,k<=n/\i=WK Xr k/\(∀j,j<k->yA m.machs.length l j=Wz)/\Below w w wr/\wr.cell? (w 3 Wr)=Ws (Yb Ma m.machs.length mc)/\w.heap.size<wr.heap.size) (λi _=>n - (WS i).toNat)
 case atStart=>exact⟨0,bU _,rfl,by omega,ae (af w) _,by go_simp,by simp⟩
 case round=>
  obtain⟨k,hk,rfl,dw,hB,xT,hz⟩:=hrel;have U:=aa dw;clear dw;by_cases ar:k<n
  .have dz:(0:Int)<=k:=by omega
   have bJ:(k:Int)<n:=Yi;obtain⟨x,hx⟩: ∃x,l[k]? =Ws x:=⟨_,Wy lU⟩;obtain⟨b,o,rfl,gP,lJ⟩:=(V.out.below hB (ag _)).cell hx;have g:=aa (λW=>HW.out x W);have C:=aa hx;cases he:aD x 1 (m.machs.length:Nat) with
   |false=>
    rw[he] at g;have y:=aa he;clear he hx;go_wp2_with(go_at_call 145;refine(g.out _).m ?_;rintro e J ⟨rfl,rfl⟩)
    go_ret;refine⟨?_,hB⟩;rw[z.out,uZ (k:=k) lU ?_]
    .rfl
    .unfold yA;rw[E8 C.out];show(aD x 1 (m.machs.length:Nat)&&_)=Ww;rw[y.out];rfl
   |true=>
    rw[he] at g;have y:=aa he;clear he;by_cases F:k=0
    .have Vl: ¬(0:Int)<(k:Int):=by omega
     have H0:=aa F;clear hx F;go_wp2_with(go_at_call 145;refine(g.out _).m ?_;rintro e J ⟨rfl,rfl⟩)
     refine⟨⟨k+1,by omega,by go_num,λj Y=> ?_,hB,xT,hz⟩,by simp[WS];omega⟩;have:=H0.out;subst this;obtain rfl:j=0:=Yi;rw[as5 C.out];exact y.out
    .obtain⟨j,rfl⟩: ∃j,k=j+1:=⟨k - 1,by omega⟩;clear F;obtain⟨p,hp⟩: ∃p,l[j]? =some p:=⟨_,List.getElem?_eq_getElem (by rw[HN.out];omega)⟩;obtain⟨b2,o2,O,_,CN⟩:=(V.out.below hB (ag _)).cell hp;injection O with O;injection O with wt G;subst wt G;have X:=aa hp;have he8:(0:Int)<(j:Int)+1:=by omega
     have lK:(0:Int)<=(j:Int):=Yi;have rY:(j:Int)<n:=Yi;clear hx hp;by_cases D:p<x
     .have hq:decide (x<=p)=false:=by simp;omega
      have lP: ¬x<=p:=Yi;have HQ:=aa D;clear D;go_wp2_with(go_at_call 145;refine(g.out _).m ?_;rintro e J ⟨rfl,rfl⟩)
      refine⟨⟨j+2,by omega,by go_num,λi hi=> ?_,hB,xT,hz⟩,by simp[WS];omega⟩;by_cases e:i=j+1
      .subst e;rw[Zn X.out C.out];have:=y.out;simp[aH,this,HQ.out]
      .exact U.out i Yi
     .have hq:decide (x<=p)=true:=by simp;omega
      have lP:x<=p:=Yi;clear D;go_wp2_with(go_at_call 145;refine(g.out _).m ?_;rintro e J ⟨rfl,rfl⟩)
      go_ret;refine⟨?_,hB⟩;rw[z.out,uZ (k:=j+1) lU ?_]
      .rfl
      .rw[Zn X.out C.out];have:decide (p<x)=false:=by simp;omega
       rw[this,Bool.and_false]
  .have qX:k=n:=by omega
   subst qX;go_wp2_with fail
   go_ret;refine⟨cE ?_,hB⟩;rw[z.out,zU (λj Y=>U.out j (by rw[<-HN.out];exact Y)),HN.out,Bool.true_and]
def ej3 (x y:cC) (o o':Wv) (w:Wu) (ho:aW w w o x.ms) (g:aW w w o' y.ms):
 aQ 234 #[Ye (x.vals o),Ye (y.vals o')] w (Yc (FR x y)):=by
 obtain⟨A,n,c,rfl,_,_,_⟩:=ho.sk.form;obtain⟨A',n',c',rfl,_,_,_⟩:=g.sk.form;have z:=aa ho;have C:=aa g;clear ho g;unfold cC.vals;go_enter func234,ntmps234;go_wp2_with(go_at_call 182;refine(YH _ _ x.ms y.ms _ w.heap.size (z.out.below (ae (ae (af w) _) _) (ag _)) (C.out.below (ae (ae (af w) _) _) (ag _))).m ?_;rintro e F ⟨rfl,j⟩;have D:=ai (ae (ae (af w) _) _) j;obtain⟨bt,cr⟩:=gw j)
 all_goals go_ret
 all_goals refine⟨cE ?_,?_⟩
 all_goals first
  |exact D
  |exact ae (ae (af w) _) _
  |(simp only[FR];simp[*];done)
  |(simp only[FR];rw[WU];simp[*];done)
def ej4 (x:cC) (A:Option X8) (n c:Nat) (w:Wu):
 aQ 310 #[Ye (x.vals (Yb A n c))] w (Ye ((jw 0 x).vals (Yb Wr 0 0))):=by
 unfold cC.vals;go_enter func310,ntmps310;go_wp2_with fail
 refine bodyPost_ret (v:=Ye ((jw 0 x).vals (Yb Wr 0 0))) (by simp[results,results310,go_sem,cC.vals,jw,ru]) rfl ?_;exact FT
def ej5 (x:cC) (A:Option X8) (n c:Nat) (w:Wu):
 aQ 312 #[Ye (x.vals (Yb A n c))] w (Ye ((jw 1 x).vals (Yb Wr 0 0))):=by
 unfold cC.vals;go_enter func312,ntmps312;go_wp2_with fail
 refine bodyPost_ret (v:=Ye ((jw 1 x).vals (Yb Wr 0 0))) (by simp[results,results312,go_sem,cC.vals,jw,ru]) rfl ?_;exact FT
def ej6 (x:cC) (A:Option X8) (n c:Nat) (w:Wu):
 aQ 314 #[Ye (x.vals (Yb A n c))] w (Ye ((jw 2 x).vals (Yb Wr 0 0))):=by
 unfold cC.vals;go_enter func314,ntmps314;go_wp2_with fail
 refine bodyPost_ret (v:=Ye ((jw 2 x).vals (Yb Wr 0 0))) (by simp[results,results314,go_sem,cC.vals,jw,ru]) rfl ?_;exact FT
def ej7 (x:cC) (A:Option X8) (n c:Nat) (w:Wu):
 aQ 316 #[Ye (x.vals (Yb A n c))] w (Ye ((jw 3 x).vals (Yb A n c))):=by
 unfold cC.vals;go_enter func316,ntmps316;go_wp2_with fail
 refine bodyPost_ret (v:=Ye ((jw 3 x).vals (Yb A n c))) (by simp[results,results316,go_sem,cC.vals,jw,ru]) rfl ?_;exact FT
def ej8 (x:cC) (A:Option X8) (n c:Nat) (w:Wu):
 aQ 318 #[Ye (x.vals (Yb A n c))] w (Ye ((jw 4 x).vals (Yb Wr 0 0))):=by
 unfold cC.vals;go_enter func318,ntmps318;go_wp2_with fail
 refine bodyPost_ret (v:=Ye ((jw 4 x).vals (Yb Wr 0 0))) (by simp[results,results318,go_sem,cC.vals,jw,ru]) rfl ?_;exact FT
def ej9 (x:cC) (A:Option X8) (n c:Nat) (w:Wu):
 aQ 320 #[Ye (x.vals (Yb A n c))] w (Ye ((jw 5 x).vals (Yb Wr 0 0))):=by
 unfold cC.vals;go_enter func320,ntmps320;go_wp2_with fail
 refine bodyPost_ret (v:=Ye ((jw 5 x).vals (Yb Wr 0 0))) (by simp[results,results320,go_sem,cC.vals,jw,ru]) rfl ?_;exact FT
def ek0 (x:cC) (A:Option X8) (n c:Nat) (w:Wu):
 aQ 322 #[Ye (x.vals (Yb A n c))] w (Ye ((jw 6 x).vals (Yb Wr 0 0))):=by
 unfold cC.vals;go_enter func322,ntmps322;go_wp2_with fail
 refine bodyPost_ret (v:=Ye ((jw 6 x).vals (Yb Wr 0 0))) (by simp[results,results322,go_sem,cC.vals,jw,ru]) rfl ?_;exact FT
def ek1 (m:aM) (v:MV) (x:cC) (o:Wv) (w:Wu) (hv:m.In w w v) (ho:aW w w o x.ms) (g:aK x.item) (j:aK x.n) (y:aK x.by_) (z:aK x.other):
 aQ 311 #[Ye (m.cells v),Ye (x.vals o)] w (Yc (B0 1 m x)):=by
 refine It λSa sc hs dh bS Fa fc hf cr cL Ra rc hr cM cV Ma mc hm dd cz La lc hl dt di Ia ic hi ed ez Ua uc hu dP dq HS iv=> ?_;obtain⟨A,n,c,rfl,_,_,_⟩:=ho.sk.form;have HW:=aa (λW=>t7 x.n 0 16 W);show WJ _ _ _ _ λe w'=>e=Xz (Yc (aH x.item m.items.length&&aD x.n 0 16))/\_;generalize aH x.item m.items.length=r1 at iv;generalize aD x.n 0 16=r2 at HW;rw[HS.out] at iv⊢
 unfold cC.vals;clear hv hs hf hr hm hl hi hu ho;cases r1 with
 |false=>go_enter func311,ntmps311;exact P1
 |true=>go_enter func311,ntmps311;exact P1
def ek2 (m:aM) (v:MV) (x:cC) (o:Wv) (w:Wu) (hv:m.In w w v) (ho:aW w w o x.ms) (g:aK x.item) (j:aK x.n) (y:aK x.by_) (z:aK x.other):
 aQ 321 #[Ye (m.cells v),Ye (x.vals o)] w (Yc (B0 6 m x)):=by
 refine It λSa sc hs dh bS Fa fc hf cr cL Ra rc hr cM cV Ma mc hm dd cz La lc hl dt di Ia ic hi ed ez Ua uc hu dP dq HS iv=> ?_;obtain⟨A,n,c,rfl,_,_,_⟩:=ho.sk.form;have HW:=aa (λW=>t7 x.n 0 16 W);show WJ _ _ _ _ λe w'=>e=Xz (Yc (aH x.item m.items.length&&aD x.n 0 16))/\_;generalize aH x.item m.items.length=r1 at iv;generalize aD x.n 0 16=r2 at HW;rw[HS.out] at iv⊢
 unfold cC.vals;clear hv hs hf hr hm hl hi hu ho;cases r1 with
 |false=>go_enter func321,ntmps321;exact P1
 |true=>go_enter func321,ntmps321;exact P1
def ek3 (m:aM) (v:MV) (x:cC) (o:Wv) (w:Wu) (hv:m.In w w v) (ho:aW w w o x.ms) (j:aK x.item) (y:aK x.n) (z:aK x.by_) (C:aK x.other):
 aQ 313 #[Ye (m.cells v),Ye (x.vals o)] w (Yc (B0 2 m x)):=by
 refine It λSa sc hs dh bS Fa fc hf cr cL Ra rc hr cM cV Ma mc hm dd cz La lc hl dt di Ia ic hi ed ez Ua uc hu dP dq HS iv=> ?_;obtain⟨A,n,c,rfl,_,_,_⟩:=ho.sk.form;have HW:=aa (λW=>t7 x.n 0 16 W);have HC:=aa (λW B u (h:aW W B u [2,3,4])=>P0 u [2,3,4] x.by_ W B h);have g:Wt (x.by_∈[2,3,4])=aD x.by_ 2 4:=by rw[WU];simp[aD];omega
 rw[g] at HC;show WJ _ _ _ _ λe w'=>e=Xz (Yc (aH x.item m.items.length&&(aD x.n 0 16&&aD x.by_ 2 4)))/\_;generalize aH x.item m.items.length=r1 at iv;generalize aD x.n 0 16=r2 at HW;generalize aD x.by_ 2 4=r3 at HC;rw[HS.out] at iv⊢
 unfold cC.vals;clear hv hs hf hr hm hl hi hu ho g;cases r1 with
 |false=>exact an8
 |true=>
  cases r2 with
  |false=>exact an8
  |true=>
   go_enter func313,ntmps313
   go_wp2_with(first
    |(go_at_call 309;refine(iv.out _ (ae (ae (af w) _) _)).m ?_;rintro e w1 ⟨rfl,ap⟩;have bf:=aa (ai (ae (ae (af w) _) _) ap);obtain⟨bt,cr⟩:=gw ap;have ba:w.heap.size+1<w1.heap.size:=jM ap Yl;clear ap)
    |(go_at_call 145;refine(HW.out _).m ?_;rintro e w2 ⟨rfl,rfl⟩)
    |(go_at_call 157;refine(HC.out _ _ _ (aW.lits _ [2,3,4] Eh Yl _)).m ?_;rintro e w3 ⟨rfl,rfl⟩)
    |fail)
   go_ret;exact⟨by simp,ae bf.out _⟩
def ek4 (m:aM) (v:MV) (x:cC) (o:Wv) (w:Wu) (hv:m.In w w v) (ho:aW w w o x.ms) (I:aK x.item) (J:aK x.n) (O:aK x.by_) (U:aK x.other):
 aQ 315 #[Ye (m.cells v),Ye (x.vals o)] w (Yc (B0 3 m x)):=by
 refine It λSa sc hs dh bS Fa fc hf cr cL Ra rc hr cM cV Ma mc hm dd cz La lc hl dt di Ia ic hi ed ez Ua uc hu dP dq HS iv=> ?_;have z:=aa (λW (hW:Below w w W)=>an7 m v o x.ms W (hv.to hW (ag _) hW.size) ((ho.below hW (ag _)).more hW.size));obtain⟨A,n,c,rfl,_,_,_⟩:=ho.sk.form;show WJ _ _ _ _ λe w'=>e=Xz (Yc (aH x.item m.items.length&&ff m x.ms))/\_;generalize aH x.item m.items.length=r1 at iv;generalize ff m x.ms=r2 at z;rw[HS.out] at iv z⊢
 unfold cC.vals;clear hv hs hf hr hm hl hi hu ho;cases r1 with
 |false=>
  go_enter func315,ntmps315
  go_wp2_with(first
   |(go_at_call 309;refine(iv.out _ (ae (ae (af w) _) _)).m ?_;rintro e C ⟨rfl,g⟩;have j:=aa (ai (ae (ae (af w) _) _) g);obtain⟨bt,cr⟩:=gw g;have F:w.heap.size+1<C.heap.size:=jM g Yl;clear g)
   |(go_at_call 231;refine(z.out _ j.out).m ?_;rintro e G ⟨rfl,y⟩;have D:=aa (ai j.out y);clear y)
   |fail)
  go_ret;exact⟨by simp,j.out⟩
 |true=>
  go_enter func315,ntmps315
  go_wp2_with(first
   |(go_at_call 309;refine(iv.out _ (ae (ae (af w) _) _)).m ?_;rintro e C ⟨rfl,g⟩;have j:=aa (ai (ae (ae (af w) _) _) g);obtain⟨bt,cr⟩:=gw g;have F:w.heap.size+1<C.heap.size:=jM g Yl;clear g)
   |(go_at_call 231;refine(z.out _ j.out).m ?_;rintro e G ⟨rfl,y⟩;have D:=aa (ai j.out y);clear y)
   |fail)
  go_ret;exact⟨by simp,D.out⟩
def ef7 (m:aM) (v:MV) (x:cC) (o:Wv) (w:Wu) (hv:m.In w w v) (ho:aW w w o x.ms) (U:aK x.item) (V:aK x.n) (X:aK x.by_) (Y:aK x.other):
 aQ 317 #[Ye (m.cells v),Ye (x.vals o)] w (Yc (B0 4 m x)):=by
 refine It λSa sc hs dh bS Fa fc hf cr cL Ra rc hr cM cV Ma mc hm dd cz La lc hl dt di Ia ic hi ed ez Ua uc hu dP dq HS iv=> ?_;have j:=aa (λW (hW:Below w w W)=>as6 m v x.other W (hv.to hW (ag _) hW.size));obtain⟨A,n,c,rfl,_,_,_⟩:=ho.sk.form;have z:(x.item !=x.other)= !Wt (x.item=x.other):=by simp[bne,yz]
 have F:=aa z;show WJ _ _ _ _ λe w'=>e=Xz (Yc (aH x.item m.items.length&&(aH x.other m.items.length&& !Wt (x.item=x.other))))/\_;generalize aH x.item m.items.length=r1 at iv;generalize aH x.other m.items.length=r2 at j;rw[HS.out] at iv j⊢
 unfold cC.vals;clear hv hs hf hr hm hl hi hu ho z;have ml:=aa (λJ=>aq (bQ w (Yd #[Yb Sa m.sites.length sc,Yb Fa m.feeds.length fc,Yb Ra m.racks.length rc,Yb Ma m.machs.length mc,Yb La m.links.length lc,Yb Ia m.items.length ic,m.dark,m.slots,m.reserve,m.failures,Yb Ua m.rules.length uc] 30)) (ae (af _) J));have NV:=aa (λC=>(show((w.alloc C).alloc (Yd #[x.kind,x.item,x.other,x.n,x.by_,Yc x.always,Yb A n c] 119)).heap[w.heap.size+1]? =Ws (Yd #[x.kind,x.item,x.other,x.n,x.by_,Yc x.always,Yb A n c] 119 (0,0)) from by have h:=bQ (w.alloc C) (Yd #[x.kind,x.item,x.other,x.n,x.by_,Yc x.always,Yb A n c] 119);rwa [XL] at h));cases r1 with
 |false=>
  go_enter func317,ntmps317;go_wp2_with fail
  refine(iv.out _ (ae (ae (af w) _) _)).m ?_;rintro e D ⟨rfl,ap⟩;refine Zo λbf c2 c3 HZ e0 e1 e2 e3 e4 e5 e6 e7 e8 e9 dJ d1 d2=> ?_;clear ap c2 c3;go_wp2_with fail
  go_ret;exact⟨by simp,bf.out⟩
 |true=>
  cases r2 with
  |false=>
   go_enter func317,ntmps317;go_wp2_with fail
   refine(iv.out _ (ae (ae (af w) _) _)).m ?_;rintro e D ⟨rfl,ap⟩;refine Zo λbf c2 c3 HZ e0 e1 e2 e3 e4 e5 e6 e7 e8 e9 dJ d1 d2=> ?_;clear ap c2 c3;go_wp2_with fail
   refine(j.out _ bf.out).m ?_;rintro e O ⟨rfl,g⟩;have y:=aa (ai bf.out g);have G:=(g.cell (p:=⟨w.heap.size+1,1,Wr⟩) HZ.out).trans d1;have I:=(g.cell (p:=⟨w.heap.size+1,2,Wr⟩) HZ.out).trans d2;clear g d1 d2 e0 e1 e2 e3 e4 e5 e6 e7 e8 e9 dJ;go_wp2_with fail
   go_ret;exact⟨by simp,y.out⟩
  |true=>
   go_enter func317,ntmps317;go_wp2_with fail
   refine(iv.out _ (ae (ae (af w) _) _)).m ?_;rintro e D ⟨rfl,ap⟩;refine Zo λbf c2 c3 HZ e0 e1 e2 e3 e4 e5 e6 e7 e8 e9 dJ d1 d2=> ?_;clear ap c2 c3;go_wp2_with fail
   refine(j.out _ bf.out).m ?_;rintro e O ⟨rfl,g⟩;have y:=aa (ai bf.out g);have G:=(g.cell (p:=⟨w.heap.size+1,1,Wr⟩) HZ.out).trans d1;have I:=(g.cell (p:=⟨w.heap.size+1,2,Wr⟩) HZ.out).trans d2;clear g d1 d2 e0 e1 e2 e3 e4 e5 e6 e7 e8 e9 dJ;go_wp2_with fail
   go_ret;exact⟨by rw[F.out];simp,y.out⟩
def ef8 (m:aM) (v:MV) (x:cC) (o:Wv) (w:Wu) (j:m.In w w v) (ho:aW w w o x.ms) (y:aK x.item) (z:aK x.n) (C:aK x.by_) (D:aK x.other):
 aQ 319 #[Ye (m.cells v),Ye (x.vals o)] w (Yc (B0 5 m x)):=by
 obtain⟨⟨Sa,sc,hs,dh,bS⟩,⟨Fa,fc,hf,cr,cL⟩,⟨Ra,rc,hr,cM,cV⟩,⟨Ma,mc,hm,dd,cz⟩,⟨La,lc,hl,dt,di⟩,⟨Ia,ic,hi,ed,ez⟩,⟨Ua,uc,hu,dP,dq⟩⟩:=j.cells;refine an9 λHS=> ?_;obtain⟨A,n,c,rfl,_,_,_⟩:=ho.sk.form;have g:=aa (λW=>t7 x.n 0 200 W);show WJ _ _ _ _ λe w'=>e=Xz (Yc (aD x.n 0 200))/\_;generalize aD x.n 0 200=r2 at g;rw[HS.out];unfold cC.vals;clear j hs hf hr hm hl hi hu ho;go_enter func319,ntmps319
 go_wp2_with(first
  |(go_at_call 145;refine(g.out _).m ?_;rintro e F ⟨rfl,rfl⟩)
  |fail)
 go_ret;exact⟨rfl,ae (ae (af w) _) _⟩
def ef9 (m:aM) (v:MV) (x:cC) (o:Wv) (w:Wu) (hv:m.In w w v) (ho:aW w w o x.ms) (J:aK x.item) (O:aK x.n) (U:aK x.by_) (V:aK x.other):
 aQ 308 #[Ye (m.cells v),Ye (x.vals o)] w (Yc (B0 0 m x)):=by
 refine It λSa sc hs dh bS Fa fc hf cr cL Ra rc hr cM cV Ma mc hm dd cz La lc hl dt di Ia ic hi ed ez Ua uc hu dP dq HS iv=> ?_;obtain⟨A,n,c,rfl,_,_,_⟩:=ho.sk.form;have C:=aa hv.is;obtain⟨kind,item,other,xn,by_,always,ms⟩:=x;dsimp only at iv J O U V⊢
 show WJ _ _ _ _ λe w'=>e=Xz (Yc (aH item m.items.length&&Wt (pL m item=0)))/\_;rw[hi] at C;cases cM:aH item m.items.length with
 |false=>
  rw[cM] at iv;rw[HS.out] at iv⊢
  unfold cC.vals;clear hv hs hf hr hm hl hi hu ho cM;go_enter func308,ntmps308
  go_wp2_with(first
   |(go_at_call 309;refine(iv.out _ (ae (ae (af w) _) _)).m ?_;rintro e D ⟨rfl,g⟩;have z:=aa (ai (ae (ae (af w) _) _) g);obtain⟨bt,cr⟩:=gw g;have I:w.heap.size+1<D.heap.size:=jM g Yl;clear g)
   |fail)
  go_ret;exact⟨by simp,z.out⟩
 |true=>
  rw[cM] at iv;obtain⟨j,rfl⟩: ∃j:Nat,item=(j:Int)+1:=⟨(item - 1).toNat,by simp[aH,aD] at cM;omega⟩;have X:j<m.items.length:=by simp[aH,aD] at cM;omega
  have lK:(0:Int)<=(j:Int):=Yi;have rY:(j:Int)<(m.items.length:Nat):=Yi;obtain⟨y,hy⟩: ∃y,m.items[j]? =Ws y:=⟨_,Wy X⟩;obtain⟨b,off,cs,rfl,gP,_,hR,bk⟩:=C.out.at_ hy;obtain⟨yo,rfl,_⟩:=hR;have Y:=bk 1 _ rfl;have F:=aa (show pL m ((j:Int)+1)=y.kind from by unfold pL;rw[show((j:Int)+1 - 1).toNat=j from by omega,hy];rfl);rw[F.out];have G:=aa (show(y.kind==0)=Wt (y.kind=0) from yz _ _);rw[HS.out] at iv⊢
  unfold cC.vals;clear hv hs hf hr hm hl hi hu ho cM bk hy F C;go_enter func308,ntmps308
  go_wp2_with(first
   |(go_at_call 309;refine(iv.out _ (ae (ae (af w) _) _)).m ?_;rintro e D ⟨rfl,g⟩;have z:=aa (ai (ae (ae (af w) _) _) g);obtain⟨bt,cr⟩:=gw g;have I:w.heap.size+1<D.heap.size:=jM g Yl;have Z:=(z.out.cell (p:=⟨b,off+j*7+1,Wr⟩) gP).trans Y;clear g)
   |fail)
  go_ret;exact⟨by rw[G.out];simp,z.out⟩
end
section
open Go Go.RowKit Go.MapKept Go.Proofs.Tryz
def fg.vals (x:fg) (o:Wv):Array Value:= #[WM (bs x.name),WK Xr x.kind,WK Xr x.count,WK Xr x.load,WK Xr x.size,WK Xr x.share,o]
def fg.vals_def (x:fg) (o:Wv):x.vals o= #[WM (bs x.name),WK Xr x.kind,WK Xr x.count,WK Xr x.load,WK Xr x.size,WK Xr x.share,o]:=rfl
def yB (k:Nat) (x:fg):Bool:=
 match k with
 |0=>(Wt (x.count=1)||Wt (x.count=3)||Wt (x.count=5))&&Wt (x.count=x.on.length)
 |1=>aD x.count 1 8
 |2=>Wt (x.count=1)&&Wt (x.on.length=1)
 |_=>Ww
def eg5 (m:aM) (x:fg) (k:Nat) (c:k<=2) (h:x.kind=k):dO m x=(yB k x&&ff m x.on&&aD x.load 0 1048576&&aD x.size 0 1048576&&aD x.share 1 1048576):=by have:k=0\/k=1\/k=2:=Yi;rcases this with rfl|rfl|rfl<;>simp[dO,yB,h]
def eg6 (m:aM) (x:fg) (h: ¬(0<=x.kind/\x.kind<=2)):dO m x=false:=by unfold dO;rw[if_neg Yi,if_neg Yi,if_neg Yi];rfl
section
variable (x:fg) (o:Wv) (xb:Nat) (w:Wu) (hx:w.heap[xb]? =Ws (Yd (x.vals o) 138 (0,0))) (ho:aW w w o x.on)
include hx ho
theorem eg7:aQ 228 #[aj xb] w (Yc (yB 0 x)):=by
 obtain⟨A,n,c,rfl,hn,hc,iG⟩:=ho.sk.form;have C:=blk_lt hx;have D:w.cell? (xb 2 Wr)=Ws (WK Xr x.count):=ah hx rfl;have F:w.cell? (xb 6 Wr)=Ws (Yb A n c):=ah hx rfl;have g:=aa (λW B u (h:aW W B u [1,3,5])=>P0 u [1,3,5] x.count W B h);have j:Wt (x.count∈[1,3,5])=(Wt (x.count=1)||Wt (x.count=3)||Wt (x.count=5)):=by rw[WU];simp[or_assoc]
 rw[j] at g;have y:=aa (show(x.count==(n:Int))=Wt (x.count=n) from yz _ _);show WJ _ _ _ _ λe w'=>e=Xz (Yc ((Wt (x.count=1)||Wt (x.count=3)||Wt (x.count=5))&&Wt (x.count=(x.on.length:Nat))))/\_;rw[hn];generalize (Wt (x.count=1)||Wt (x.count=3)||Wt (x.count=5))=r at g;clear hx ho j hn;simp only[aj];cases r with
 |false=>
  go_enter func228,ntmps228;go_wp2_with(go_at_call 157;refine(g.out _ _ _ (aW.lits _ [1,3,5] Eh Yl _)).m ?_;rintro e z ⟨rfl,rfl⟩)
  go_ret;exact⟨by simp,ae (af w) _⟩
 |true=>
  go_enter func228,ntmps228;go_wp2_with(go_at_call 157;refine(g.out _ _ _ (aW.lits _ [1,3,5] Eh Yl _)).m ?_;rintro e z ⟨rfl,rfl⟩)
  go_ret;exact⟨by rw[y.out];simp,ae (af w) _⟩
omit ho in
theorem eg8:aQ 229 #[aj xb] w (Yc (yB 1 x)):=by
 have g:=blk_lt hx;have j:w.cell? (xb 2 Wr)=Ws (WK Xr x.count):=ah hx rfl;have c:=aa (λW=>t7 x.count 1 8 W);show WJ _ _ _ _ λe w'=>e=Xz (Yc (aD x.count 1 8))/\_;generalize aD x.count 1 8=r at c;clear hx;simp only[aj];go_enter func229,ntmps229;go_wp2_with(go_at_call 145;refine(c.out _).m ?_;rintro e y ⟨rfl,rfl⟩)
 go_ret;exact⟨rfl,af _⟩
theorem eg9:aQ 230 #[aj xb] w (Yc (yB 2 x)):=by
 obtain⟨A,n,c,rfl,hn,hc,iG⟩:=ho.sk.form;have z:=blk_lt hx;have C:w.cell? (xb 2 Wr)=Ws (WK Xr x.count):=ah hx rfl;have D:w.cell? (xb 6 Wr)=Ws (Yb A n c):=ah hx rfl;show WJ _ _ _ _ λe w'=>e=Xz (Yc (Wt (x.count=1)&&Wt (x.on.length=1)))/\_;rw[hn];have g:=aa (show(x.count==1)=Wt (x.count=1) from yz _ _);have j:=aa (show((n:Int)==1)=Wt (n=1) from by rw[yz];exact decide_eq_decide.2 Yi);clear hx ho hn;simp only[aj];by_cases h:(x.count==1)=Wz
 .go_enter func230,ntmps230;have H:=aa h;go_wp2_with fail
  go_ret;exact⟨by have:=g.out;rw[H.out] at this;rw[<-this,<-j.out];simp,af w⟩
 .have y:(x.count==1)=false:=by simpa using h
  clear h;have H:=aa y;go_enter func230,ntmps230;go_wp2_with fail
  go_ret;exact⟨by have:=g.out;rw[H.out] at this;rw[<-this];simp,af w⟩
end
def Mt (xb:Nat):Int->Option Value:=aY (aY (aY (λ_=>Wr) 0 (.func (.func 228) #[] #[aj xb])) 1 (.func (.func 229) #[] #[aj xb])) 2 (.func (.func 230) #[] #[aj xb])
def ao2 (w:Wu) (a b:Obj):de iO (((w.alloc a).alloc b).alloc (.map #[] 0)) (w.heap.size+1+1) (λ_=>Wr):=by
 have h:=de.made iO ((w.alloc a).alloc b)
 rwa [XL,XL] at h
def eh0 (t:WQ) (c:t=22) (f:Fn) (a b:Array Wv) (w:Wu):(Go.binOp .neq t (.func f a b) .nilFunc).run WH w= .ok (Yc Wz) w:=by subst c;kernel_rfl
def eh1 (w:Wu):(Go.binOp .neq 22 .nilFunc .nilFunc).run WH w= .ok (Yc Ww) w:=aC
def sF (w:Wu) (C D:Array Wv) (s t:WQ):((w.alloc (Yd C s)).alloc (Yd D t)).heap[w.heap.size]? =Ws (Yd C s (0,0))/\((w.alloc (Yd C s)).alloc (Yd D t)).heap[w.heap.size+1]? =Ws (Yd D t (0,0)):=by
 refine⟨aq (bQ w _) (ae (af _) _),?_⟩;have h:=bQ (w.alloc (Yd C s)) (Yd D t)
 rwa [XL] at h
def Zq (m:aM) (v:MV) (x:fg) (o:Wv) (w:Wu) (g:Nat) (y:Bool) (D:dp g) (hv:m.In w w v) (ho:aW w w o x.on)
 (z:Mt (w.heap.size+1) x.kind=Ws (.func (.func g) #[] #[aj (w.heap.size+1)]))
 (C: ∀W,W.heap[w.heap.size+1]? =Ws (Yd (x.vals o) 138 (0,0))->aW W W.heap.size o x.on->aQ g #[aj (w.heap.size+1)] W (Yc y)):
 aQ 150 #[Ye (m.cells v),Ye (x.vals o)] w (Yc (y&&ff m x.on&&aD x.load 0 1048576&&aD x.size 0 1048576&&aD x.share 1 1048576)):=by
 have HM:=aa (λW (j:Below w w W)=>an7 m v o x.on W (hv.to j (ag _) j.size) ((ho.below j (ag _)).more j.size));have HG:=aa (λW (j:Below w w W) (G:W.heap[w.heap.size+1]? =Ws (Yd (x.vals o) 138 (0,0)))=>C W G ((ho.below j (ag _)).more j.size));refine rz λSa sc hs dh bS Fa fc cB cr cL Ra rc hr cM cV Ma mc hm dd cz La lc hl dt di Ia ic hi ed ez Ua uc hu dP dq HS=> ?_;obtain⟨A,n,c,rfl,hn,hc,iG⟩:=ho.sk.form;have HF:=aa z;have tg:=aa (λW=>t7 x.load 0 1048576 W);have th:=aa (λW=>t7 x.size 0 1048576 W);have vW:=aa (λW=>t7 x.share 1 1048576 W);generalize ff m x.on=r1 at HM;generalize aD x.load 0 1048576=r2 at tg;generalize aD x.size 0 1048576=r3 at th;generalize aD x.share 1 1048576=r4 at vW;unfold dp at D;refine tP λlM=> ?_;refine ou λnV=> ?_;rw[HS.out] at HM⊢
 rw[fg.vals_def] at HG⊢
 have aR:=aa (sF w #[Yb Sa m.sites.length sc,Yb Fa m.feeds.length fc,Yb Ra m.racks.length rc,Yb Ma m.machs.length mc,Yb La m.links.length lc,Yb Ia m.items.length ic,m.dark,m.slots,m.reserve,m.failures,Yb Ua m.rules.length uc] #[bs x.name,x.kind,x.count,x.load,x.size,x.share,Yb A n c] 30 138);have ny:=aa (ao2 w);clear hv ho z C hs cB hr hm hl hi hu hn;simp only[aj] at HG HF;have F:=λf a b w=>eh0 _ rfl f a b w;cases y with
 |false=>
  go_enter func150,ntmps150;go_wp2_with first
   |(refine ev rfl (Yg 7) (Yh (WK Xr 0)) (Yg 8) 252 (.inr rfl) 3 22 (.int Xr) underlying252 WI co (w.heap.size+1+1) (λ_=>Wr) rfl (ny.out _ _) 0 (.func (.func 228) #[] #[aj (w.heap.size+1)]) rfl rfl ?_;intro w1 jj dK)
   |(refine ev rfl (Yg 7) (Yh (WK Xr 1)) (Yg 9) 252 (.inr rfl) 3 22 (.int Xr) underlying252 WI co (w.heap.size+1+1) _ rfl jj 1 (.func (.func 229) #[] #[aj (w.heap.size+1)]) rfl rfl ?_;intro w2 jk eT)
   |(refine ev rfl (Yg 7) (Yh (WK Xr 2)) (Yg 10) 252 (.inr rfl) 3 22 (.int Xr) underlying252 WI co (w.heap.size+1+1) _ rfl jk 2 (.func (.func 230) #[] #[aj (w.heap.size+1)]) rfl rfl ?_;intro w3 jl fj;refine ao3 λiV HX ty jT a1=> ?_;have Gw:=aa ty;have lo:=aa jT;have rO:=aa jl;clear jj dK jk eT jl fj ty jT)
   |(at_lookup;refine B3 rfl (.tmp 12) (.tmp 14) 252 false rfl 3 22 (.int .i64) underlying252 underlying3 co (w.heap.size+1+1) _ rfl rO.out x.kind .nilFunc rfl (zeroValue22 _) ?_
     rw[show aY (aY (aY (λ_=>Wr) 0 (Value.func (.func 228) #[] #[aj (w.heap.size+1)])) 1 (.func (.func 229) #[] #[aj (w.heap.size+1)])) 2 (.func (.func 230) #[] #[aj (w.heap.size+1)]) x.kind=Ws (.func (.func g) #[] #[Yf (Ws ⟨w.heap.size+1,0,Wr⟩)]) from HF.out];simp only[Option.getD_some,WW,if_false])
   |(refine(HG.out _ iV.out lo.out).m ?_;rintro e w4 ⟨rfl,aS⟩;refine ao4 λbE oI rd e0 e1 e2 e3 e4 e5 e6 e7 e8 e9 dJ a6 zh=> ?_;clear aS oI rd)
   |(go_at_call 231;refine(HM.out _ bE.out).m ?_;rintro e w5 ⟨rfl,bp⟩;refine ao5 λbY nr a3 a4 a5=> ?_;clear bp nr)
   |(go_at_call_of 145 (WK Xr x.load);refine(tg.out _).m ?_;rintro e w6 ⟨rfl,rfl⟩)
   |(go_at_call_of 145 (WK Xr x.size);refine(th.out _).m ?_;rintro e w7 ⟨rfl,rfl⟩)
   |(go_at_call_of 145 (WK Xr x.share);refine(vW.out _).m ?_;rintro e w8 ⟨rfl,rfl⟩)
  go_ret;exact⟨by simp,bE.out⟩
 |true=>
  cases r1 with
  |false=>exact P3
  |true=>
   cases r2 with
   |false=>exact P3
   |true=>
    cases r3 with
    |false=>exact P3
    |true=>exact P3
end
section
open Go Go.RowKit Go.Shelf Go.Proofs.Tryz
attribute [local go_sem] Oper.semAt_some
def fg6 (F:Fence) (n:Nat) (Y:F.fn 289) (I:F.fn 207) (z:F.round=Wr) (hn:3<=n) (g:Nat) (A:Wv) (j:List ByteArray) (O:j.length<=1000000) (w:Wu) (kb:g<w.heap.size)
 (V:w.cell? g=Ws A) (Z:Sl w w A (j.map (WM))):
 CallsIn F n WH 289 #[Yb Wr 0 0,.func (.func 207) #[] #[Yf (Ws g)]] w λe C=> ∃v,e=Xz v/\C.ownsRow w.heap.size 9 1 v j.length (j.map (WM))/\Below w w C:=by
 have X:1<=n:=Yi;refine MX λi0 hi cJ ba bd=> ?_;refine callsIn_of_wp_marks func289 rfl Y ?_ z;simp only[ntmps289,List.size_toArray,Xg,XO,Nat.reduceAdd,Nat.reduceSub,Array.replicate_succ,Array.replicate_zero,List.push_toArray,List.append_toArray,Xl,WZ]
 gi_wp2
 have J:=Boxed.new w 23 (Yb Wr 0 0);have y:Below w w (w.alloc (Yd #[Yb Wr 0 0] 23)):=(XA _ w).alloc (ag _) _;refine wpIn_rangeFunc_ownG z X (gf:=207) (lb:= #[Yf (Ws g)]) rfl I (WD func207 aC rfl)
  (fg2 F (n - 1) I z Yi g w A j O (w.alloc (Yd #[Yb Wr 0 0] 23)) bI Yl ((y.cell (p:=g) kb).trans V) (Z.below y)) belowK_t (belowK_b Yl) (XA _ _) (λ_=>rfl)
  (λpre W=>(∃v,Boxed W w 23 v/\W.ownsRow w.heap.size 9 1 v pre.length (pre.map (WM))/\True)/\Below w w W)
  (λ_ _ _=>False)
  (OwnFrom.and (Own.from (holdsRow_own w.heap.size w.heap.size 23 9 1 (λpre:List ByteArray=>pre.length) (λpre=>pre.map (WM)) (λ_ _=>True)) _) (ownFrom_below (ag _) Yl))
  (λ_ _ _ _ _ hs _ _=>hs)
  ⟨⟨_,J,WX _ _ _ _,trivial⟩,y⟩
  (λx=>{tmps:= #[Yb Wr 0 0,.func (.func 207) #[] #[Yf (Ws g)],Yf (Ws w),XE,Yb Wr 0 0,WM x,.func (.func 207) #[] #[Yf (Ws g)],WM x,XE,XE,XE,XE,XE],defers:=[]}) ?assign ?body ?done ?stop
 case assign=>
  intro l x W K hK
  gi_wp2
  exact hK
 case body=>
  rintro l pre x W ⟨⟨v,hv,dE,_⟩,hB⟩ ar;have hc:=hv.cell
  gi_wp2_with (gi_at_builtin;refine wpListIn_append_own _ rfl _ _ 23 rfl w.heap.size 9 i0 (WM ⟨#[]⟩) 1 16 X9 hi cJ ba bd rfl az _ _ _ rfl (dE.alloc _) (W 0 Wr) 1 1 [WM x] rfl rfl (cell_one_new _ _ _) ti ul Yi (by have:=hB.size;simp;omega) ?_;intro v' w1 G U _;obtain⟨g',cap',rfl⟩:=ownsRow_succ G;obtain⟨gN,kf,cV,gM,am⟩:=hv.appended az dE hB.size (ag _) G U;have bt:=gN.cell;have cr:=gN.frozen)
  exact⟨gM.from _,am,⟨_,kf,by simpa using cV,trivial⟩,hB.trans am⟩
 case done=>exact az0
 case stop=>rintro D c pre W _ _ h _;exact h.elim
def fg7 (F:Fence) (n:Nat) (Y:F.fn 292) (I:F.fn 210) (z:F.round=Wr) (hn:3<=n) (g:Nat) (A:Wv) (j:List Int) (O:j.length<=1000000) (w:Wu) (kb:g<w.heap.size)
 (V:w.cell? g=Ws A) (Z:Sl w w A (j.map (WK .i64))):
 CallsIn F n WH 292 #[Yb Wr 0 0,.func (.func 210) #[] #[Yf (Ws g)]] w λe C=> ∃v,e=Xz v/\C.ownsRow w.heap.size 3 1 v j.length (j.map (WK .i64))/\Below w w C:=by
 have X:1<=n:=Yi;refine L6 λi0 hi cJ ba bd=> ?_;refine callsIn_of_wp_marks func292 rfl Y ?_ z;simp only[ntmps292,List.size_toArray,Xg,XO,Nat.reduceAdd,Nat.reduceSub,Array.replicate_succ,Array.replicate_zero,List.push_toArray,List.append_toArray,Xl,WZ]
 gi_wp2
 have J:=Boxed.new w 31 (Yb Wr 0 0);have y:Below w w (w.alloc (Yd #[Yb Wr 0 0] 31)):=(XA _ w).alloc (ag _) _;refine wpIn_rangeFunc_ownG z X (gf:=210) (lb:= #[Yf (Ws g)]) rfl I (WD func210 aC rfl)
  (fg5 F (n - 1) I z Yi g w A j O (w.alloc (Yd #[Yb Wr 0 0] 31)) bI Yl ((y.cell (p:=g) kb).trans V) (Z.below y)) belowK_t (belowK_b Yl) (XA _ _) (λ_=>rfl)
  (λpre W=>(∃v,Boxed W w 31 v/\W.ownsRow w.heap.size 3 1 v pre.length (pre.map (WK .i64))/\True)/\Below w w W)
  (λ_ _ _=>False)
  (OwnFrom.and (Own.from (holdsRow_own w.heap.size w.heap.size 31 3 1 (λpre:List Int=>pre.length) (λpre=>pre.map (WK .i64)) (λ_ _=>True)) _) (ownFrom_below (ag _) Yl))
  (λ_ _ _ _ _ hs _ _=>hs)
  ⟨⟨_,J,WX _ _ _ _,trivial⟩,y⟩
  (λx=>{tmps:= #[Yb Wr 0 0,.func (.func 210) #[] #[Yf (Ws g)],Yf (Ws w),XE,Yb Wr 0 0,WK .i64 x,.func (.func 210) #[] #[Yf (Ws g)],WK .i64 x,XE,XE,XE,XE,XE],defers:=[]}) ?assign ?body ?done ?stop
 case assign=>
  intro l x W K hK
  gi_wp2
  exact hK
 case body=>
  rintro l pre x W ⟨⟨v,hv,dE,_⟩,hB⟩ ar;have hc:=hv.cell
  gi_wp2_with (gi_at_builtin;refine wpListIn_append_own _ rfl _ _ 31 rfl w.heap.size 3 i0 (WK Xr 0) 1 8 underlying31 hi cJ ba bd rfl az _ _ _ rfl (dE.alloc _) (W 0 Wr) 1 1 [WK .i64 x] rfl rfl (cell_one_new _ _ _) ti ul Yi (by have:=hB.size;simp;omega) ?_;intro v' w1 G U _;obtain⟨g',cap',rfl⟩:=ownsRow_succ G;obtain⟨gN,kf,cV,gM,am⟩:=hv.appended az dE hB.size (ag _) G U;have bt:=gN.cell;have cr:=gN.frozen)
  exact⟨gM.from _,am,⟨_,kf,by simpa using cV,trivial⟩,hB.trans am⟩
 case done=>exact az0
 case stop=>rintro D c pre W _ _ h _;exact h.elim
end
section
open Go Go.RowKit Go.Proofs.Tryz
def zx (n:Int): ∀l,(wQ n l).Perm (n::l)
 |[]=>List.Perm.refl _
 |a::l=>by
  unfold wQ;split
  .exact List.Perm.refl _
  .exact((zx n l).cons a).trans (List.Perm.swap _ _ _)
def IM: ∀l:List Int,(lX l).Perm l
 |[]=>List.Perm.refl _
 |a::l=>(zx a (lX l)).trans ((IM l).cons a)
def bh1 (n:Int): ∀l:List Int,l.Pairwise (·<=·)->(wQ n l).Pairwise (·<=·)
 |[],_=>by simp[wQ]
 |a::l,h=>by
  unfold wQ;rw[List.pairwise_cons] at h;split
  .rename_i g;refine List.pairwise_cons.2 ⟨λb c=> ?_,List.pairwise_cons.2 h⟩;rcases List.mem_cons.1 c with rfl|c
   .exact g
   .have:=h.1 b c;omega
  .rename_i g;refine List.pairwise_cons.2 ⟨λb c=> ?_,bh1 n l h.2⟩;rcases List.mem_cons.1 ((zx n l).mem_iff.1 c) with rfl|c
   .omega
   .exact h.1 b c
def bh2: ∀l:List Int,(lX l).Pairwise (·<=·)
 |[]=>List.Pairwise.nil
 |a::l=>bh1 a _ (bh2 l)
def bh3 (l:List Int):(l.mergeSort λx y=>Wt (x<=y))=lX l:=by refine List.Perm.eq_of_pairwise (le:=λx y:Int=>x<=y) (λa b _ _ g j=>Int.le_antisymm g j) ?_ (bh2 l) ((List.mergeSort_perm _ _).trans (IM l).symm);have h:=List.pairwise_mergeSort (le:=λx y:Int=>Wt (x<=y)) (λa b c g j=>by simp at*;omega) (λa b=>by simp;omega) l;exact h.imp (λh=>by simpa using h)
def fh3 (l:List (List UInt8)):(l.mergeSort λx y=>Wt (x<=y)).Pairwise (·<=·):=by
 have h:=List.pairwise_mergeSort (le:=λx y:List UInt8=>Wt (x<=y)) (λa b c g j=>by
  simp only[decide_eq_true_eq] at*
  exact List.le_trans g j) (λa b=>by
  have:=List.le_total a b;simpa using this) l
 exact h.imp (λh=>by simpa using h)
def fh4 {s:List (List UInt8)} (c:s.Pairwise (·<=·)) (C: ∀j (h:j+1<s.length),s[j]≠s[j+1]):s.Nodup:=by
 rw[List.pairwise_iff_getElem] at c;refine List.pairwise_iff_getElem.2 λi j F G g D=> ?_;have y:s[i]<=s[j - 1]:=by
  by_cases e:i=j - 1
  .subst e;exact List.le_refl _
  .exact c i (j - 1) F Yi Yi
 have z:s[j - 1]<=s[j]:=c (j - 1) j Yi G Yi;have A:s[j - 1]=s[j]:=List.le_antisymm z (D▸y);have I:j - 1+1=j:=Yi;refine C (j - 1) Yi ?_;rw[A];simp only[I]
def fh5 (l:List (List UInt8)):(Go.Lib.compact (l.mergeSort λx y=>Wt (x<=y))).length<l.length↔¬l.Nodup:=by
 have g:=List.mergeSort_perm l (λx y=>Wt (x<=y));have z:=fh3 l;rw[<-g.nodup_iff,<-g.length_eq];generalize (l.mergeSort λx y=>Wt (x<=y))=s at g z;constructor
 .intro h G;rw[Go.Lib.compact_all s (λj c=> ?_)] at h
  .omega
  .by_cases D:j=0
   .subst D;simp[Go.Lib.keeps]
   .refine Go.Lib.keeps_pos λe=> ?_;have I:=List.pairwise_iff_getElem.1 G (j - 1) j (by omega) c (by omega);apply I;have A:s.toArray[j]! =s[j]:=by simp[getElem!_pos,c]
    have C:s.toArray[j - 1]! =s[j - 1]:=by simp[getElem!_pos,show j - 1<s.length by omega]
    rw[A,C] at e;exact e.symm
 .intro h;have: ∃j,∃h:j+1<s.length,s[j]=s[j+1]:=by
   apply Classical.byContradiction;intro J;exact h (fh4 z λj c e=>J ⟨j,c,e⟩)
  obtain⟨j,c,e⟩:=this;unfold Go.Lib.compact Go.Lib.compactUpTo;rw[WF];have F:=(List.length_filter_lt_length_iff_exists (l:=Xs s.length) (p:=Go.Lib.keeps s.toArray)).2 ⟨j+1,List.mem_range.2 c,by rw[Go.Lib.keeps_neg Yi (by simp[getElem!_pos,c,show j<s.length by omega,e])];simp⟩
  rwa [List.length_range] at F
end
end Go.Proofs.YtklfdkdebgfmiaaGreatDoor
