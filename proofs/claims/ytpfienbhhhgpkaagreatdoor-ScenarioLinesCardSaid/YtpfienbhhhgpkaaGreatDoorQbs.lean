/- A part of the proof. -/
import Derived.Test.YtpfienbhhhgpkaaGreatDoorQbp
set_option linter.defProp false
set_option linter.unusedVariables false
set_option linter.unusedSimpArgs false
set_option maxRecDepth 100000
set_option maxHeartbeats 32000000
open Option renaming some->WX,none->WY
open Decidable renaming decide->WZ
open Go renaming World->Xa,Value->Xb,Calls->Xq,maxLen->XF,Ending->Ys,Addr->Yy
open Bool renaming false->Xc,true->Xe
open Go.RowKit renaming Hid->Xf
open Go.Proofs.Tryz renaming prog->Xn
open Go.Proofs renaming intOf->Xw
open Go.Value renaming int->Xo,string->Xp,ownBlock->X2,slice->YG,bool->YH,agg->YJ
open Go.IntKind renaming i64->XO
open Go.Ending renaming returned->Ya
open Go.Obj renaming cells->YI
namespace Go.Proofs.YtpfienbhhhgpkaaGreatDoor
section
open Go Go.RowKit Go.Proofs.Tryz
def ZH(b r:List aH)(t:df)(d:aH):jb b t (d::r)=
 if bS d=Xc then .error (b.length,1)else if FN t b d=Xe then .error (b.length,5)
 else jb (b++[d]) (if d.name=[]then t else t++[(d.name,d.kind,iV (b++[d]) (bZ d.kind))]) r:=by
 cases hv:bS d with
 |false=>rw[bc6 hv];rfl
 |true=>
  cases hb:FN t b d with
  |true=>rw[bc7 hv hb];rfl
  |false=>rw[bc8 hv hb];rfl
def ZI:∀(r b:List aH)(t:df)(x:Nat×Nat),jb b t r= .error x->x.2=1\/x.2=5
 |[],b,t,x,h=>by rw[WL]at h;cases h
 |d::r,b,t,x,h=>by
  rw[ZH]at h;split at h
  .injection h with h;subst h;exact .inl rfl
  .split at h
   .injection h with h;subst h;exact .inr rfl
   .exact ZI r _ _ x h
def bb7:∀(r b:List aH)(t j:df),jb b t r= .ok j->∀d∈r,bS d=Xe
 |[],b,t,j,h,d,c=>by simp at c
 |x::r,b,t,j,h,d,c=>by
  rw[ZH]at h;split at h
  .cases h
  .split at h
   .cases h
   .rename_i y z;rcases List.mem_cons.1 c with rfl|c
    .simpa using y
    .exact bb7 r _ _ j h d c
def bb8:∀(r b:List aH)(t z:df),jb b t r= .ok z->(∀x∈t,x.2.2<=b.length)->∀x∈z,x.2.2<=b.length+r.length
 |[],b,t,z,h,ht,x,hx=>by rw[WL]at h;injection h with h;subst h;exact bQ (ht x hx) (Nat.le_add_right _ _)
 |d::r,b,t,z,h,ht,x,hx=>by
  rw[ZH]at h;split at h
  .cases h
  .split at h
   .cases h
   .have:=bb8 r _ _ z h (λy j=>by
     rw[Xm,XH];split at j
     .exact Nat.le_succ_of_le (ht y j)
     .rcases List.mem_append.1 j with j|j
      .exact Nat.le_succ_of_le (ht y j)
      .rw[List.mem_singleton.1 j];have:=List.length_filter_le (λx:aH=>WZ (bZ x.kind=bZ d.kind)) (b++[d]);rw[Xm,XH]at this;exact this) x hx
    simp only[Xm,XV,YF]at this⊢
    omega
def fc6{l:List aH}{t:df}(h:jb [] [] l= .ok t)(c:l.length<=1000000)(s:ar):aP (bG t s):=by
 unfold bG dQ;cases hf:t.find? (λx=>WZ (x.1=s))with
 |none=>exact pY (n:=0) aF
 |some x=>have:=bb8 l [] [] t h (λx hx=>by simp at hx) x (List.mem_of_find?_eq_some hf);exact pY (n:=x.2.2) (by simp at this;omega)
def bb9{t:df}{i:Nat}{m:aT}{d:aH}{r:List aH}(h:¬fy t d=0):p9 t i m (d::r)= .error (i,fy t d):=by rw[p9,if_pos h]
def bc0{t:df}{i:Nat}{m:aT}{d:aH}{r:List aH}(h:fy t d=0):p9 t i m (d::r)=p9 t (i+1) (eE t m d) r:=by rw[p9,if_neg (by simp[h])]
def fc7{l:List aH}{x:Nat×Nat}(h:jb [] [] l= .error x):nG l= .error x:=by unfold nG;rw[h]
def fc8{l:List aH}{t:df}{x:Nat×Nat}(h:jb [] [] l= .ok t)(c:p9 t 0 {} l= .error x):nG l= .error x:=by unfold nG;rw[h];simp only[c]
def fc9{l:List aH}{t:df}{m:aT}(h:jb [] [] l= .ok t)(c:p9 t 0 {} l= .ok m)(j:(l.any λd=>WZ (d.kind=8))=Xc):nG l= .error (l.length,6):=by unfold nG;rw[h];simp only[c,j];rfl
def fd0{l:List aH}{t:df}{m:aT}(h:jb [] [] l= .ok t)(c:p9 t 0 {} l= .ok m)(j:(l.any λd=>WZ (d.kind=8))=Xe):nG l=if ev m then .ok m else .error (l.length,2):=by unfold nG;rw[h];simp only[c,j];rfl
def fd1{t:df}{d:aH}(A:bS d=Xe)(z:∀s,aP (bG t s))(F:aP d.by_):Iu (mw t d)/\∀y∈(mw t d).ms,aP y:=by
 have j:∀i,aP (fV (d.refs.map (bG t)) i):=λi=>by
  unfold fV;rw[Xy,Xr];cases d.refs[i]? with
  |none=>exact pY (n:=0) aF
  |some s=>exact z s
 have G:=(qx A).1;refine⟨⟨⟨?_,?_⟩,j 0,?_,?_,F⟩,λy D=>?_⟩
 .show -9223372036854775808<=(d.kind:Int) - 10;omega
 .show(d.kind:Int) - 10<=9223372036854775807;omega
 .show aP (if d.kind=14 then fV (d.refs.map (bG t)) 1 else 0);split
  .exact j 1
  .exact pY (n:=0) aF
 .show aP (fv (d.nums.drop (d.nums.length - 1)) 0);have:=Fm A (d.nums.length - 1);unfold fv at this⊢
  rw[Xy]at this⊢
  rw[List.getElem?_drop];exact this
 .have c:y∈(if d.kind=13 then ou ((d.refs.map (bG t)).drop 1)else[]):=D;split at c
  .have C:=(Iv _).mem_iff.1 c;obtain⟨s,_,rfl⟩:=List.mem_map.1 (X8 C);exact z s
  .simp at c
def fd2{t:df}{m:aT}{d:aH}(h:10<=d.kind):eE t m d={m with rules:=m.rules++[mw t d]}:=by
 obtain⟨kind,nm,rf,nu,b,al⟩:=d;dsimp only at h
 match kind,h with
 |k+10,_=>rfl
def fB.nil_(w:Xa)(B:Nat):fB w B 0 {} ⟨YG WY 0 0,YG WY 0 0,YG WY 0 0,YG WY 0 0,YG WY 0 0,YG WY 0 0,YG WY 0 0⟩:=
 ⟨World.ownsRow_nil _ _ _ _,World.ownsRow_nil _ _ _ _,World.ownsRow_nil _ _ _ _,World.ownsRow_nil _ _ _ _,World.ownsRow_nil _ _ _ _,⟨[],World.ownsRow_nil _ _ _ _,rfl,λj x h=>by simp at h⟩,⟨[],World.ownsRow_nil _ _ _ _,rfl,λj x h=>by simp at h⟩,
  λk h=>by simp[X2]at h,by simp,λx h=>by simp at h,λx h=>by simp at h,λx h=>by simp at h,⟨pY (n:=0) aF,pY (n:=0) aF,pY (n:=0) aF,pY (n:=0) aF⟩⟩
end
section
open Go Go.RowKit Go.MapKept Go.Proofs.Tryz
def bi1:∀(out:List ar)(r:ar),(∀x∈out,dt 10 x)->bL (aE out++r)=out++bL r
 |[],r,_=>rfl
 |x::out,r,h=>by have e:aE (x::out)++r=x++10::(aE out++r):=B7;rw[e,ai1 x _ (h x YQ),bi1 out r (λy hy=>h y rr)];rfl
def bi2(out:List ar)(c:ar):aE (out++[c])=aE out++(c++[10]):=B7
def fh3{s:ByteArray}{k:Nat}{x:UInt8}(h:s.data.toList[k]?=WX x):s.extract k (k+1)=bs [x]:=by
 rw[<-lv (s.extract k (k+1))];congr 1;have e:(s.extract k (k+1)).data.toList=(s.data.toList.drop k).take 1:=by simp[ByteArray.data_extract,Array.toList_extract]
 rw[e,FM h];rfl
def Mk{s:ByteArray}{k:Nat}{x:UInt8}(h:s.data.toList[k]?=WX x)(c:k<s.size):s[k]=x:=by show s.data[k]=x;rw[Array.getElem?_toList]at h;exact(Array.getElem?_eq_some_iff.1 h).2
def fh4(s:ByteArray)(w:Xa)(hs:s.size<=2000000):
 Xq Xn 7 #[s] w λe w'=>∃v,e=Ya v/\w'.ownsRow w 9 1 v (bL s.data.toList).length ((bL s.data.toList).map jT)/\Below w w w':=by
 refine LT λi0 hi cE aZ bh=>?_;obtain⟨t,ht⟩:∃t,s.data.toList=t:=⟨_,rfl⟩;have nx:s=bs t:=by rw[<-ht,lv]
 have vU:t.length=s.size:=by rw[nx,dd]
 rw[ht];have dc3:=ah ht;have HT:=ah nx;have RL:=ah vU;clear ht nx vU;go_enter func7,ntmps7;go_wp2_with fail
 go_loopw [3,4,5] (λv Z i wr=>∃(k:Nat)(out:List ar)(c:ar),k<=s.size/\i=Xo XO k/\Z=Xp (bs c)/\t.take k=aE out++c/\(∀x∈out,dt 10 x)/\dt 10 c/\c.length<=k/\out.length<=k/\wr.ownsRow w 9 1 v out.length (out.map jT)/\Below w w wr) (λ_ _ i _=>s.size - (Xw i).toNat)
 case atStart=>exact⟨0,[],[],cb _,rfl,rfl,rfl,λx hx=>by simp at hx,λx hx=>by simp at hx,am _,am _,World.ownsRow_made w #[] 0 (am _) pm rfl,ai (aj w) _⟩
 case round=>
  obtain⟨k,out,c,hk,rfl,rfl,Bc,KE,hc,N4,cj,bN,hB⟩:=hrel;have rm:=ah Bc;have J:=ah KE;have U:=ah hc;have z:=ah bN;have I:=ah hB;have gz3:=hB.size;have bd:(bs c).size<=2000000:=GE;clear Bc KE hc bN hB;by_cases az:k<s.size
  .have dh:(0:Int)<=k:=by omega
   have bF:(k:Int)<s.size:=YN;obtain⟨x,hx⟩:∃x,t[k]?=WX x:=⟨_,Xd (by rw[RL.o];exact az)⟩;have O:s.data.toList[k]?=WX x:=by rw[dc3.o];exact hx
   have HX:=ah (Mk O az);have I7:=ah (fh3 O);have F:t.take (k+1)=t.take k++[x]:=by rw[XU,hx];rfl
   have D:=ah F;clear hx O F;by_cases A:x=10
   .have dL:((s[k].toNat:Int)==10)=true:=by rw[HX.o,A];rfl
    have V:=ah A;clear A;go_wp2_with first
     |(at_builtin;refine wpList_append_own _ rfl (.tmp 17) (.tmp 19) _ rfl w.heap.size 9 i0 _ 1 16 underlying22 hi cE aZ bh rfl (by decide) _ out.length (out.map jT) rfl (z.o.alloc _) ⟨wr,0,none⟩ 1 1 [.string (bs c)] rfl rfl (nJ rfl) (by simp[Value.oneCell']) (by simp[maxLen];omega) (by omega) (by simp;omega) ?_
       intro v' w3 G C _;have i':=ah G;have Y:=ah (xR (z.o.alloc (YI #[bs c] 9)) (ai I.o _) (am _) C);clear G C)
    refine⟨⟨k+1,out++[c],[],by omega,by go_num,rfl,?_,λy j=>?_,λy j=>by simp at j,cb _,by simp;omega,?_,Y.o⟩,by simp[Xw];omega⟩
    .rw[D.o,rm.o,bi2,V.o];simp
    .rcases List.mem_append.1 j with j|j
     .exact J.o y j
     .rw[List.mem_singleton.1 j];exact U.o
    .rw[Xm,XX];exact i'.o
   .have dL:((s[k].toNat:Int)==10)=false:=by
     rw[HX.o,beq_eq_false_iff_ne];intro e
     exact A (by have:x.toNat=10:=by omega
                 exact UInt8.toNat_inj.1 this)
    have V:=ah A;have HS:=ah (show bs c++s.extract k (k+1)=bs (c++[x])by rw[I7.o,eP]);clear A;have UG:(s.extract k (k+1)).size<=1:=by rw[I7.o,dd];simp
    have jJ:(k:Int)+1<=s.size:=YN;go_wp2_with fail
    refine⟨⟨k+1,out,c++[x],by omega,by go_num,by rw[<-HS.o],?_,J.o,λy j=>?_,by simp;omega,by omega,z.o,I.o⟩,by simp[Xw];omega⟩
    .rw[D.o,rm.o];simp
    .rcases List.mem_append.1 j with j|j
     .exact U.o y j
     .rw[List.mem_singleton.1 j];exact V.o
  .have KQ:t=aE out++c:=by
    have h:=rm.o;rw[Xu (by rw[RL.o];omega)]at h;exact h
   have HL:=ah (show bL t=out++bL c by rw[KQ,bi1 out c J.o]);have Ge:=ah (ai0 U.o);clear KQ;by_cases eT:0<c.length
   .have hg:(0:Int)<((bs c).size:Int):=by rw[dd];omega
    have X:=ah (show bL t=out++[c]by rw[HL.o,Ge.o,if_neg (λe=>by rw[e]at eT;simp at eT)]);go_wp2_with first
     |(at_builtin;refine wpList_append_own _ rfl (.tmp 31) (.tmp 33) _ rfl w.heap.size 9 i0 _ 1 16 underlying22 hi cE aZ bh rfl (by decide) _ out.length (out.map jT) rfl (z.o.alloc _) ⟨wr,0,none⟩ 1 1 [.string (bs c)] rfl rfl (nJ rfl) (by simp[Value.oneCell']) (by simp[maxLen];omega) (by omega) (by simp;omega) ?_
       intro v' w3 G C _;have i':=ah G;have Y:=ah (xR (z.o.alloc (YI #[bs c] 9)) (ai I.o _) (am _) C);clear G C)
    go_ret;refine⟨_,rfl,?_,Y.o⟩;rw[X.o,Xm,XX];exact i'.o
   .have hg:¬(0:Int)<((bs c).size:Int):=by rw[dd];omega
    have X:=ah (show bL t=out by rw[HL.o,Ge.o,if_pos (List.eq_nil_of_length_eq_zero YN),Yz]);go_wp2_with fail
    go_ret;refine⟨_,rfl,?_,I.o⟩;rw[X.o];exact z.o
def fi2(x:UInt8)(w:Xa):Xq Xn 193 #[.int .u8 x.toNat] w λe w'=>e=Ya (YH (WZ (97<=x.toNat)&&WZ (x.toNat<=122)))/\w'=w:=by
 obtain⟨n,hn⟩:∃n:Nat,x.toNat=n:=⟨_,rfl⟩;rw[hn];clear hn;by_cases j:(97:Int)<=n
 .have c:decide (97<=n)=true:=by simp;omega
  rw[c];go_enter func193,ntmps193;go_wp2_with fail
  go_ret;refine⟨?_,rfl⟩;have:WZ ((n:Int)<=122)=(Xe&&WZ (n<=122)):=by rw[Bool.true_and];apply decide_eq_decide.2;omega
  exact congrArg (λq=>Ya (YH q)) this
 .have c:decide (97<=n)=false:=by simp;omega
  rw[c];go_enter func193,ntmps193;exact CR
def fi3(x:UInt8)(w:Xa):Xq Xn 196 #[.int .u8 x.toNat] w λe w'=>e=Ya (YH (WZ (48<=x.toNat)&&WZ (x.toNat<=57)))/\w'=w:=by
 obtain⟨n,hn⟩:∃n:Nat,x.toNat=n:=⟨_,rfl⟩;rw[hn];clear hn;by_cases j:(48:Int)<=n
 .have c:decide (48<=n)=true:=by simp;omega
  rw[c];go_enter func196,ntmps196;go_wp2_with fail
  go_ret;refine⟨?_,rfl⟩;have:WZ ((n:Int)<=57)=(Xe&&WZ (n<=57)):=by rw[Bool.true_and];apply decide_eq_decide.2;omega
  exact congrArg (λq=>Ya (YH q)) this
 .have c:decide (48<=n)=false:=by simp;omega
  rw[c];go_enter func196,ntmps196;exact CR
def ZT(l:List ByteArray)(s:ByteArray)(e:Ys):Prop:=∃r:Bool,e=Ya (YH r)/\(r=Xe↔s∈l)
def fi4(v:Xb)(l:List ByteArray)(s:ByteArray)(w:Xa)(B:Nat)(h:cB w B v l)(O:l.length<=1000000000):
 Xq Xn 194 #[v,s] w λe w'=>ZT l s e/\w'=w:=by
 obtain⟨A,n,c,rfl,hn,hc,hm⟩:=h.form;have H:=ah h;have HN:=ah hn;rw[hn]at O;clear h hn;go_enter func194,ntmps194;go_wp2_with fail
 go_loopw [5] (λi wr=>∃k:Nat,k<=n/\i=Xo XO k/\(∀x∈l.take k,x≠s)/\wr=w) (λi _=>n - (Xw i).toNat)
 case atStart=>exact⟨0,cb _,rfl,λx hx=>by simp at hx,rfl⟩
 case round=>
  obtain⟨k,hk,rfl,me,hw⟩:=hrel;obtain rfl:=hw.symm;have F:=ah me;clear me;by_cases az:k<n
  .have X:(0:Int)<=k:=by omega
   have J:(k:Int)<n:=YN;obtain⟨b,o,rfl,hb,bb⟩:=H.o.at_ k az;have V:=bb k az;have D:aJ l k∈l:=Bo kB;have I:=ah (VP l k kB);clear bb;generalize aJ l k=x at*
   by_cases j:x=s
   .have C:=ah (show s∈l by rw[<-j];exact D);have q:(x.toList==s.toList)=true:=by rw[j];simp
    clear j D;go_wp2_with fail
    go_ret;exact⟨(⟨Xe,rfl,by simp[C.o]⟩:ZT l s _),rfl⟩
   .have G:=ah j;have q:(x.toList==s.toList)=false:=by
     rw[beq_eq_false_iff_ne];intro h;exact j (by rw[<-lv x,<-gK,h,gK,lv])
    clear j D;go_wp2_with fail
    exact⟨⟨k+1,by omega,by go_num,λy z=>by
     rw[I.o]at z;rcases List.mem_append.1 z with z|z
     .exact F.o y z
     .rw[List.mem_singleton.1 z];exact G.o,by trivial⟩,by simp[Xw];omega⟩
  .have J:¬(k:Int)<n:=by omega
   have C:=ah (show ¬s∈l by have h:=F.o;rw[Xu sR]at h;exact λU=>h s U rfl);go_wp2_with fail
   go_ret;exact⟨(⟨Xc,rfl,by simp[C.o]⟩:ZT l s _),rfl⟩
def bi6(w:Xa):
 Xq Xn 195 #[] w λe w'=>∃v,e=Ya v/\bp w' w' v dP/\Below w w w':=by
 go_enter func195,ntmps195;go_wp2_with fail
 go_ret;refine⟨_,rfl,?_,ai (aj w) _⟩;refine⟨_,28,rfl,by decide,by decide,λ_=>⟨w.heap.size,0,rfl,by simp,λj u c=>?_⟩⟩;rw[XE,Nat.zero_add,<-Array.getElem?_toList];exact c
def bi7(v:Xb)(l:List ar)(s:ar)(w:Xa)(B:Nat)(h:bp w B v l)(j:l.length<=1000000000):
 Xq Xn 194 #[v,bs s] w λe w'=>e=Ya (YH (WZ (s∈l)))/\w'=w:=by
 refine(fi4 v (l.map bs) (bs s) w B h (by simpa using j)).mono λe w'⟨⟨r,c,y⟩,z⟩=>⟨?_,z⟩;rw[c];refine cd ?_;rw[Xz,y,decide_eq_true_eq,List.mem_map];exact⟨λ⟨x,hx,e⟩=>LE e▸hx,λhx=>⟨s,hx,rfl⟩⟩
def ZU{s:ar}{k:Nat}{x:UInt8}(h:s[k]?=WX x)(c:k<(bs s).size):(bs s)[k]=x:=Mk (by simpa[bs]using h) c
def bi8{s:ar}{k:Nat}{x:UInt8}(h:s[k]?=WX x)(c:k<(bs s).size)(W:Xa):Xq Xn 193 #[.int .u8 (bs s)[k].toNat] W λe w'=>e=Ya (YH (kE x))/\w'=W:=by rw[ZU h c];exact fi2 x W
def ff7{s:ar}{k:Nat}{x:UInt8}(h:s[k]?=WX x)(c:k<(bs s).size)(W:Xa):Xq Xn 196 #[.int .u8 (bs s)[k].toNat] W λe w'=>e=Ya (YH (bX x))/\w'=W:=by rw[ZU h c];exact fi3 x W
def ff8{x:UInt8}:((x.toNat:Int)==95)=(x==95):=by
 rw[Xz,beq_iff_eq,beq_iff_eq]
 exact⟨λh=>UInt8.toNat_inj.1 (by have:x.toNat=95:=by omega
                                 rw[this];rfl),λh=>by rw[h];rfl⟩
def ZV(s:ar)(w:Xa):
 aR 116 #[bs s] w (YH (br s)):=by
 have c:(bs s).size=s.length:=dd s;have HZ:=ah c;have V:=ah (λW v B(h:bp W B v dP)=>bi7 v dP s W B h aF);have J:=ah (fun(h:0<(bs s).size)W=>bi8 (k:=0) (x:=s.headD 0) (by
  cases s with
  |nil=>rw[dd]at h;simp at h
  |cons a l=>rfl) h W)
 have z:Hid (s.all cX=eF (iY s cX) (bs s).size):=ah (by rw[c,Wy]);have Y:=ah (λk x(h:s[k]?=WX x)=>(fq h:iY s cX k=cX x));unfold br;generalize s.all cX=al at z;generalize iY s cX=F at z Y;generalize WZ (s∈dP)=kw at V;generalize kE (s.headD 0)=low at J;obtain⟨n,hn⟩:∃n,s.length=n:=⟨_,rfl⟩;rw[hn]at c⊢
 have HN:=ah hn;clear hn;by_cases y:1<=n;rotate_left
 .have k1:((bs s).size:Int)<1:=by omega
  have O:=ah y;clear y c;go_enter func116,ntmps116;go_wp2_with fail
  go_ret;exact⟨cd (by simp[O.o]),aj w⟩
 by_cases G:n<=31;rotate_left
 .have k1:¬((bs s).size:Int)<1:=by omega
  have k2:(31:Int)<((bs s).size:Int):=YN;have U:=ah G;clear y G c;go_enter func116,ntmps116;go_wp2_with fail
  go_ret;exact⟨cd (by simp[U.o]),aj w⟩
 have k1:¬((bs s).size:Int)<1:=YN;have k2:¬(31:Int)<((bs s).size:Int):=YN;have k0:0<(bs s).size:=YN;have O:=ah y;have U:=ah G;clear y G c;cases low with
 |false=>
  go_enter func116,ntmps116;go_wp2_with(go_at_call 193;refine(J.o k0 _).m ?_;rintro e w1 ⟨rfl,hw⟩;obtain rfl:=hw.symm)
  go_ret;exact⟨cd YQ,aj _⟩
 |true=>
  cases kw with
  |true=>
   go_enter func116,ntmps116
   go_wp2_with(first
    |(go_at_call 193;refine(J.o k0 _).m ?_;rintro e w1 ⟨rfl,hw⟩;obtain rfl:=hw.symm)
    |(go_at_call 195;refine(bi6 _).m ?_;rintro e w2 ⟨v,rfl,I,C⟩)
    |(go_at_call 194;refine(V.o _ _ _ I).m ?_;rintro e w3 ⟨rfl,hw⟩;obtain rfl:=hw.symm))
   go_ret;exact⟨cd YQ,C⟩
  |false=>
   go_enter func116,ntmps116
   go_wp2_with(first
    |(go_at_call 193;refine(J.o k0 _).m ?_;rintro e w1 ⟨rfl,hw⟩;obtain rfl:=hw.symm)
    |(go_at_call 195;refine(bi6 _).m ?_;rintro e w2 ⟨v,rfl,I,C⟩;have Z:=ah C;clear C)
    |(go_at_call 194;refine(V.o _ _ _ I).m ?_;rintro e w3 ⟨rfl,hw⟩;obtain rfl:=hw.symm;clear I))
   go_loopw [3] (λi wr=>∃k:Nat,k<=(bs s).size/\i=Xo XO k/\(∀j,j<k->F j=Xe)/\wr=w2) (λi _=>(bs s).size - (Xw i).toNat)
   case atStart=>exact⟨0,cb _,rfl,λj hj=>by omega,rfl⟩
   case round=>
    obtain⟨k,hk,rfl,cj,hw⟩:=hrel;obtain rfl:=hw.symm;have eO:=ah cj;clear cj;by_cases D:k<(bs s).size
    .have dh:(0:Int)<=k:=by omega
     have bF:(k:Int)<(bs s).size:=YN;obtain⟨x,hx⟩:∃x,s[k]?=WX x:=⟨_,Xd vp⟩;have jZ:=ah (Y.o k x hx);have BP:=ah (λW=>bi8 hx D W);have Dx:=ah (λW=>ff7 hx D W);have A:(((bs s)[k].toNat:Int)==95)=(x==95):=by rw[ZU hx D];exact ff8
     have X:(((bs s)[k].toNat:Int)!=95)= !(x==95):=by rw[bne,A]
     unfold cX at jZ;generalize kE x=b1 at jZ BP;generalize bX x=b2 at jZ Dx;generalize (x==95)=b3 at jZ A X;clear hx;cases b1 with
     |true=>
      clear A X
      have HR:=ah (show ∀j,j<k+1->F j=Xe from λq hq=>by
       rcases XN q k with h|h
       .exact eO.o q h
       .have:q=k:=by omega
        subst this;rw[jZ.o];rfl)
      go_wp2_with(go_at_call 193;refine(BP.o _).m ?_;rintro e w1 ⟨rfl,hw⟩;obtain rfl:=hw.symm)
      exact⟨⟨k+1,by omega,by go_num,HR.o,by trivial⟩,by simp[Xw];omega⟩
     |false=>
      cases b2 with
      |true=>clear A X;exact bi9
      |false=>
       cases b3 with
       |true=>exact bi9
       |false=>
        have HR:=ah (show al=Xc by rw[z.o];exact uG D (by rw[jZ.o];rfl))
        go_wp2_with(first
         |(go_at_call 193;refine(BP.o _).m ?_;rintro e w1 ⟨rfl,hw⟩;obtain rfl:=hw.symm)
         |(go_at_call 196;refine(Dx.o _).m ?_;rintro e w1 ⟨rfl,hw⟩;obtain rfl:=hw.symm))
        go_ret;exact⟨cd (by rw[HR.o];simp),Z.o⟩
    .have bF:¬(k:Int)<(bs s).size:=by omega
     have HR:=ah (show al=Xe by rw[z.o];exact zw λj hj=>eO.o j YN);go_wp2_with fail
     go_ret;exact⟨cd (by rw[HR.o];simp[O.o,U.o]),Z.o⟩
def bp.take{w:Xa}{B n c:Nat}{A:Option Yy}{l:List ar}(h:bp w B (YG A n c) l){j:Nat}(F:j<=n):bp w B (YG A j c) (l.take j):=by
 obtain⟨A',c',he,h1,h2,h3⟩:=h;injection he with C y D;subst C D;simp only[Xl]at y;refine⟨A,c,by simp[<-y,Nat.min_eq_left F],by simp at h1⊢;omega,h2,λG=>?_⟩;have z:(l.map bs).map Xp≠[]:=λe=>G (by
  have:l=[]:=by simpa using e
  rw[this];simp)
 obtain⟨b,o,hA,hb,hc⟩:=h3 z;refine⟨b,o,hA,hb,λi x hx=>hc i x ?_⟩;rw[List.map_take,List.map_take,List.getElem?_take]at hx;split at hx
 .exact hx
 .cases hx
def Hz(w:Xa)(c j:Obj):((w.alloc c).alloc j).heap[w.heap.size+1]?=WX j:=by
 have h:=cN (w.alloc c) j
 rwa [show(w.alloc c).heap.size=w.heap.size+1 by simp]at h
def fm2{L:List ar}{k:Nat}{s:ar}(h:L[k]?=WX s):fC (λs b=>br s&& !WZ (s∈b)) [] L k=(br s&& !WZ (s∈L.take k)):=JS
def bf1{c:Nat->Bool}{n k:Nat}{b q:Bool}(j:b=(eF c n&&q))(y:k<n)(h:c k=Xc):b=false:=by rw[j,uG y h];rfl
def fm3{k:Nat}{l:List Int}(j:Nat)(x y:Int)(h:¬j=0)(c:l[j - 1]?=WX y)(hx:l[j]?=WX x):xV k l j=(aG x k&&WZ (y<x)):=by obtain⟨i,rfl⟩:∃i,j=i+1:=⟨j - 1,by omega⟩;exact WB c hx
def Fw(n a b:Int)(w:Xa):Xq Xn 124 #[n,a,b] w λe w'=>e=Ya (YH (aD n a b))/\w'=w:=by
 go_enter func124,ntmps124
 go_wp2
 all_goals (go_ret;exact⟨cd JO,rfl⟩)
def fm4(m:aT)(v:MV)(w:Xa)(hv:m.In w w v)(jn:m.sites.length<=100)(Z:m.feeds.length<=100)(V:m.racks.length<=100)(U:m.machs.length<=100)(TS:m.items.length<=100):
 aR 120 #[YJ (m.cells v)] w (YH (oZ (cY m))):=by
 refine qP λSa sc hs cz bD Fa fc cC bT cG Ra rc hr ca cQ Ma mc hm cJ cD La lc hl cS du Ia ic hi dG ew Ua uc hu dH dC HS=>?_;have O:=ah (λW(hW:Below w w W)=>fm1 m v W (hv.to hW (am _) hW.size) jn Z V U TS);have X:=ah (show(cY m).length<=1000 by simp[cY];omega);generalize cY m=L at O X;unfold oZ;have iW:=ah (wj (λs b=>br s&& !WZ (s∈b)) L []);have fO:=ah (λk s(h:L[k]?=WX s)=>fm2 h);generalize dZ (λs b=>br s&& !WZ (s∈b)) [] L=res at iW⊢
 generalize fC (λs b=>br s&& !WZ (s∈b)) [] L=F at iW fO;rw[HS.o]at O;clear jn Z V U TS;rw[HS.o];clear hv hs cC hr hm hl hi hu;go_enter func120,ntmps120;go_upto_region 1 with(fail)
 refine eG ?_;intro W1 ⟨aY,C⟩;have bo:=ah aY;have gS:=ah C;have ti:=blk_lt C;obtain⟨a0,a1,a2,a3,a4,a5,a6,a7,a8,a9,ez⟩:=eR C;clear aY C;go_wp2_with first
  |(go_at_call 205;refine(O.o W1 bo.o).m ?_;rintro e w2 ⟨u,rfl,hu,au⟩;have Y:Hid (bp w2 w2 u L):=ah hu.slS;obtain⟨A,n,c,rfl,hn,hc,fk⟩:=cB.form hu.slS;rw[Xl]at hn;have HN:=ah hn;rw[hn]at iW;refine tr λaU=>?_;clear hu au hn)
 go_loopw [4] (λi wr=>∃k:Nat,k<=n/\i=Xo XO k/\(∀j,j<k->F j=Xe)/\Below w2 w2 wr) (λi _=>n - (Xw i).toNat)
 case atStart=>exact⟨0,cb _,rfl,λj hj=>by omega,aj w2⟩
 case round=>
  obtain⟨k,hk,rfl,cj,hB⟩:=hrel;have eO:=ah cj;have G:=ah hB;have bm:Hid (Below w w wr):=ak aU.o hB;clear cj hB;by_cases az:k<n
  .have qy:(0:Int)<=k:=by omega
   have bF:(k:Int)<n:=YN;have AJ:(k:Int)<=c:=YN;obtain⟨s,hs⟩:∃s,L[k]?=WX s:=⟨_,Xd kB⟩;have HF:=ah (fO.o k s hs);obtain⟨ub,uo,rfl,co2,eh⟩:=bp.cell Y.o hs;have cs:=kc G.o eh;have I:=ah (λW=>ZV s W);have z:=ah (λW(h:Below wr wr W)=>bi7 (YG (WX (ub uo WY)) k c) (L.take k) s W w2 (bp.below (bp.take Y.o YN) (ak G.o h) (am _)) (by have:=X.o;rw[XQ];omega));obtain⟨b1,ay⟩:∃q,br s=q:=⟨_,rfl⟩;obtain⟨b2,au⟩:∃q,WZ (s∈L.take k)=q:=⟨_,rfl⟩;rw[ay,au]at HF;have J:=ah ay;have fh:=ah au;clear ay au hs eh;cases b1 with
   |false=>
    have HR:=ah (Bp iW.o az Nw);go_upto_region 5 with(fail)
    refine Zh λhS=>?_;iterate 4 refine cL 16 13 ?_
    refine bC 4 λK y=>?_;go_simp;refine(I.o _).m ?_;rintro e D ⟨rfl,aQ⟩;rw[J.o];try go_simp
    refine y.o _ _ Se (λhS=>?_);clear y;refine aO ?_;iterate 2 refine cL 16 13 ?_
    iterate 8 refine qY 16 13 ?_
    refine iw 15 28 ?_;refine gA ?_;go_wp2_with fail
    go_ret;exact⟨by rw[HR.o];rfl,ak bm.o hS.2⟩
   |true=>
    cases b2 with
    |true=>
     have HR:=ah (Bp iW.o az Nw);go_upto_region 5 with(fail)
     refine Zh λhS=>?_;iterate 4 refine cL 16 13 ?_
     refine bC 4 λK y=>?_;go_simp;refine(I.o _).m ?_;rintro e D ⟨rfl,aQ⟩;rw[J.o];try go_simp
     refine y.o _ _ Se (λhS=>?_);clear y;refine aO ?_;iterate 9 refine cL 16 13 ?_
     refine bC 14 λK y=>?_;go_simp;refine(z.o _ hS.2).m ?_;rintro e D ⟨rfl,rfl⟩;rw[fh.o];try go_simp
     refine y.o _ _ (hS) (λhS=>?_);clear y;refine aO ?_;refine iw 15 28 ?_;refine gA ?_;go_wp2_with fail
     go_ret;exact⟨by rw[HR.o];rfl,ak bm.o hS.2⟩
    |false=>
     have jZ:=ah (show F k=Xe from by first|exact HF.o|(rw[HF.o];rfl));go_upto_region 5 with(fail)
     refine Zh λhS=>?_;iterate 4 refine cL 16 13 ?_
     refine bC 4 λK y=>?_;go_simp;refine(I.o _).m ?_;rintro e D ⟨rfl,aQ⟩;rw[J.o];try go_simp
     refine y.o _ _ Se (λhS=>?_);clear y;refine aO ?_;iterate 9 refine cL 16 13 ?_
     refine bC 14 λK y=>?_;go_simp;refine(z.o _ hS.2).m ?_;rintro e D ⟨rfl,rfl⟩;rw[fh.o];try go_simp
     refine y.o _ _ (hS) (λhS=>?_);clear y;refine aO ?_;refine iw 15 28 ?_;refine gA ?_;go_wp2_with fail
     exact⟨⟨k+1,by omega,by go_num,λq hq=>by
      rcases XN q k with h|h
      .exact eO.o q h
      .have:q=k:=by omega
       subst this;exact jZ.o,ak G.o hS.2⟩,by simp[Xw];omega⟩
  .have bF:¬(k:Int)<n:=by omega
   exact ZQ
def bf2(m:aT)(v:MV)(u:Xb)(l:List Int)(w:Xa)(hv:m.In w w v)(X:aW w w u l):
 aR 206 #[YJ (m.cells v),u] w (YH (fw m l)):=by
 obtain⟨A,n,c,rfl,hn,hc,fk⟩:=X.sk.form;refine qP λSa sc hs cz bD Fa fc cC bT cG Ra rc hr ca cQ Ma mc hm cJ cD La lc hl cS du Ia ic hi dG ew Ua uc hu dH dC HS=>?_;have Z:=ah X;have HN:=ah hn;have iW:Hid (fw m l=(eF (xV m.machs.length l) n&&WZ (0<n))):=by show _=_;rw[<-hn,<-ar8];rfl
 have z:=ah (λx(h:l[0]?=WX x)=>ar9 (k:=m.machs.length) h);have M8:=ah (fun(j:Nat)(x y:Int)=>fm3 (k:=m.machs.length) (l:=l) j x y);generalize fw m l=res at iW⊢
 generalize xV m.machs.length l=F at iW z M8;clear X hn;rw[HS.o];clear hv hs cC hr hm hl hi hu;go_enter func206,ntmps206;go_upto_region 1 with(fail)
 refine eG ?_;intro G ⟨aY,I⟩;have bo:=ah aY;have gS:=ah I;have ti:=blk_lt I;clear aY I;go_wp2_with fail
 go_loopw [5] (λi wr=>∃k:Nat,k<=n/\i=Xo XO k/\(∀j,j<k->F j=Xe)/\Below G G wr) (λi _=>n - (Xw i).toNat)
 case atStart=>exact⟨0,cb _,rfl,λj hj=>by omega,aj G⟩
 case round=>
  obtain⟨k,hk,rfl,cj,hB⟩:=hrel;have J:=ah cj;have Y:=ah hB;refine nE λbm=>?_;have c3:=ap (o:=3) (aC gS.o hB) rfl;clear cj hB;by_cases az:k<n
  .have qy:(0:Int)<=k:=by omega
   have bF:(k:Int)<n:=YN;obtain⟨x,hx⟩:∃x,l[k]?=WX x:=⟨_,Xd kB⟩;obtain⟨ub,uo,C,co2,eh⟩:=aW.cell Z.o hx;subst C;have cs:=kc bm.o eh;clear eh;by_cases D:k=0
   .have HF:=ah (show F k=aG x m.machs.length by rw[D];exact z.o x (by rw[<-D];exact hx));obtain⟨b1,ay⟩:∃q,aG x m.machs.length=q:=⟨_,rfl⟩;rw[ay]at HF;have dK:=ah ay;have q0:decide ((0:Int)<(k:Int))=false:=decide_eq_false (by omega);have IT:decide (0<k)=false:=decide_eq_false (by omega);clear D;clear ay hx;cases b1 with
    |false=>exact bp5
    |true=>
     have V:=ah (show F k=Xe from by first|exact HF.o|(rw[HF.o];rfl));go_upto_region 4 with(fail)
     refine bp6 λhS=>?_;iterate 7 refine cL 25 12 ?_
     refine bC 7 λK hK=>?_;go_simp;refine pZ ?_;rintro e w4 ⟨rfl,rfl⟩;rw[dK.o];try go_simp
     refine hK.o _ _ (hS) (λhS=>?_);clear hK;refine aO ?_;iterate 5 refine cL 25 12 ?_
     iterate 10 refine qY 25 12 ?_
     iterate 2 refine cL 25 12 ?_
     refine gA ?_;go_wp2_with fail
     exact⟨⟨k+1,by omega,by go_num,λq hq=>by
      rcases XN q k with h|h
      .exact J.o q h
      .have:q=k:=by omega
       subst this;exact V.o,ak Y.o hS.2.2⟩,by simp[Xw];omega⟩
   .obtain⟨y,hy⟩:∃y,l[k - 1]?=some y:=⟨_,List.getElem?_eq_getElem (by rw[HN.o];omega)⟩;have HF:=ah (M8.o k x y D hy hx);obtain⟨ub',uo',C,_,G0⟩:=aW.cell Z.o hy;injection C with C;injection C with O U _;subst O U;have cp:=kc bm.o G0;obtain⟨b1,ay⟩:∃q,aG x m.machs.length=q:=⟨_,rfl⟩;obtain⟨b2,au⟩:∃q,decide (y<x)=q:=⟨_,rfl⟩;rw[ay,au]at HF;have dK:=ah ay;refine bp7 λq0 IT q1 q2 q3 U6 q4=>?_;clear ay hx hy G0;cases b1 with
    |false=>clear au;exact bp5
    |true=>
     cases b2 with
     |false=>
      have q5:WZ (x<=y)=true:=decide_eq_true (by have:=of_decide_eq_false au;omega);clear au;have HR:=ah (bf1 iW.o az Nw);go_upto_region 4 with(fail)
      refine bp8 λhS=>?_;iterate 7 refine cL 25 12 ?_
      refine bC 7 λK hK=>?_;go_simp;refine pZ ?_;rintro e w4 ⟨rfl,rfl⟩;rw[dK.o];try go_simp
      refine hK.o _ _ (hS) (λhS=>?_);clear hK;refine aO ?_;iterate 17 refine cL 25 12 ?_
      refine gA ?_;go_wp2_with fail
      go_ret;exact⟨by rw[HR.o];rfl,ak bm.o hS.2.2.2⟩
     |true=>
      have q5:WZ (x<=y)=false:=decide_eq_false (by have:=of_decide_eq_true au;omega);clear au;have V:=ah (show F k=Xe from by first|exact HF.o|(rw[HF.o];rfl));go_upto_region 4 with(fail)
      refine bp8 λhS=>?_;iterate 7 refine cL 25 12 ?_
      refine bC 7 λK hK=>?_;go_simp;refine pZ ?_;rintro e w4 ⟨rfl,rfl⟩;rw[dK.o];try go_simp
      refine hK.o _ _ (hS) (λhS=>?_);clear hK;refine aO ?_;iterate 17 refine cL 25 12 ?_
      refine gA ?_;go_wp2_with fail
      exact⟨⟨k+1,by omega,by go_num,λq hq=>by
       rcases XN q k with h|h
       .exact J.o q h
       .have:q=k:=by omega
        subst this;exact V.o,ak Y.o hS.2.2.2⟩,by simp[Xw];omega⟩
  .have bF:¬(k:Int)<n:=by omega
   have HR:=ah (show res=WZ (0<n)from by rw[iW.o,zw λj hj=>J.o j YN,Bool.true_and]);go_wp2_with fail
   go_ret;exact⟨by rw[HR.o];exact cd YQ,bm.o⟩
def qc(x:ci):Bool:=WZ (x.other=0)&&WZ (x.by_=0)&& !x.always&&WZ (x.ms=[])
section
variable (m:aT) {x:ci}
def fm7(h:x.kind=0):dm m x=(aG x.item m.items.length&&WZ (p8 m x.item=0)&&qc x&&WZ (x.n=0)):=by exact Zj
def fm8(h:x.kind=1):dm m x=(aG x.item m.items.length&&WZ (x.other=0)&&WZ (x.by_=0)&&WZ (x.ms=[])&&aD x.n 0 16):=by exact Qc
def fk7(h:x.kind=2):dm m x=(aG x.item m.items.length&&aD x.by_ 2 4&&WZ (x.other=0)&& !x.always&&WZ (x.ms=[])&&aD x.n 0 16):=by exact Qc
def fk8(h:x.kind=3):dm m x=(aG x.item m.items.length&&fw m x.ms&&WZ (x.other=0)&&WZ (x.by_=0)&& !x.always&&WZ (x.n=0)):=by exact Qc
def fk9(h:x.kind=4):dm m x=(aG x.item m.items.length&&aG x.other m.items.length&& !WZ (x.item=x.other)&&WZ (x.by_=0)&& !x.always&&WZ (x.ms=[])&&WZ (x.n=0)):=by exact Qc
def fl0(h:x.kind=5):dm m x=(WZ (x.item=0)&&qc x&&aD x.n 0 200):=by exact Zj
def fl1(h:x.kind=6):dm m x=(aG x.item m.items.length&&qc x&&aD x.n 0 16):=by exact Zj
end
def Zk{n:Int}{k:Nat}(h:aG n k=Xe):1<=n:=by simp[aG,aD]at h;exact h.1
def Mr{n:Int}{k:Nat}(h:aG n k=Xe):n<=k:=by simp[aG,aD]at h;exact h.2
def fl2{m:aT}{n:Int}{y:em}(h:m.items[(n - 1).toNat]?=WX y):p8 m n=y.kind:=by unfold p8;rw[h];rfl
def fl3(m:aT)(v:MV)(x:ci)(o:Xb)(w:Xa)(hv:m.In w w v)(ho:aW w w o x.ms):
 aR 122 #[YJ (m.cells v),YJ (x.vals o)] w (YH (dm m x)):=by
 obtain⟨A,n,c,rfl,hn,hc,fk⟩:=ho.sk.form;refine qP λSa sc hs cz bD Fa fc cC bT cG Ra rc hr ca cQ Ma mc hm cJ cD La lc hl cS du Ia ic hi dG ew Ua uc hu dH dC HS=>?_;have DC:=ah (λW(Z:Below w w W)=>bf2 m v (YG A n c) x.ms W (hv.to Z (am _) Z.size) ((ho.below Z (am _)).more Z.size));rw[HS.o]at DC;have xq:=hv.is;rw[hi]at xq;have mh:=ah xq;have z:=ah (show WZ (x.ms=[])=WZ (n=0)by rw[<-hn,Xz];simp);obtain⟨pl,Hi⟩:∃q,qc x=q:=⟨_,rfl⟩;have F:=ah (show pl=(WZ (x.other=0)&&WZ (x.by_=0)&& !x.always&&WZ (n=0))by rw[<-Hi,qc,z.o]);have D:=ah Hi;obtain⟨it,hit⟩:∃q,aG x.item m.items.length=q:=⟨_,rfl⟩;obtain⟨b2,au⟩:∃q,aG x.other m.items.length=q:=⟨_,rfl⟩;obtain⟨b3,aN⟩:∃q,fw m x.ms=q:=⟨_,rfl⟩;have dK:=ah hit;have fh:=ah au;have o_:=ah aN;clear hit au aN Hi ho hn xq;rw[HS.o,ci.vals_def];clear hv hs cC hr hm hl hi hu;go_enter func122,ntmps122;go_upto_region 1 with(fail)
 refine fe (λW=>Below w w W/\W.heap[w.heap.size]?=WX (YI #[YG Sa m.sites.length sc,YG Fa m.feeds.length fc,YG Ra m.racks.length rc,YG Ma m.machs.length mc,YG La m.links.length lc,YG Ia m.items.length ic,m.dark,m.slots,m.reserve,m.failures,YG Ua m.rules.length uc] 29 (0,0))/\W.heap[w.heap.size+1]?=WX (YI #[x.kind,x.item,x.other,x.n,x.by_,YH x.always,YG A n c] 95 (0,0))) ⟨ai (ai (aj w) _) _,aC (cN w _) (ai (aj _) _),Hz w _ _⟩ ?_;intro W1 ⟨aY,dq,Y⟩;have bo:=ah aY;have gS:=ah dq;have lr:=ah Y;obtain⟨a0,a1,a2,a3,a4,a5,a6,a7,a8,a9,ez⟩:=eR dq;obtain⟨x0,x1,x2,x3,x4,x5,x6⟩:=gY Y;have aZ:=blk_lt Y;clear aY dq Y;obtain⟨xb,eL⟩:∃q,w.heap.size+1=q:=⟨_,rfl⟩;rw[eL]at lr x0 x1 x2 x3 x4 x5 x6⊢
 clear eL aZ;obtain⟨al,AN⟩:∃q,x.always=q:=⟨_,rfl⟩;rw[AN]at x5 F lr;have C:=ah AN;clear AN;go_upto_region 2 with
  (go_at_call 123;refine pZ ?_;rintro e w3 ⟨rfl,hw⟩;obtain rfl:=hw.symm;first|rw[dK.o]|rw[fh.o])
 go_cut [6] (λq wx=>q=YH pl/\W1=wx)
 case first=>
  by_cases ho:x.other=0
  .have eo:(x.other==0)=true:=by simp[ho]
   by_cases j:x.by_=0
   .have eb:(x.by_==0)=true:=by simp[j]
    cases al with
    |true=>have HZ:=ah (show pl=Xc by rw[F.o];simp);clear ho j;exact Ms
    |false=>
     by_cases X:n=0
     .have en:((n:Int)==0)=true:=by simp[X]
      have HZ:=ah (show pl=Xe by rw[F.o];simp[ho,j,X]);clear ho j X;exact Ms
     .have en:((n:Int)==0)=false:=by simp[X]
      have HZ:=ah (show pl=Xc by rw[F.o];simp[X]);clear ho j X;exact Ms
   .have eb:(x.by_==0)=false:=by simp[j]
    have HZ:=ah (show pl=Xc by rw[F.o];simp[j]);clear ho j;exact Ms
  .have eo:(x.other==0)=false:=by simp[ho]
   have HZ:=ah (show pl=Xc by rw[F.o];simp[ho]);clear ho;exact Ms
 case rest=>
 obtain⟨rfl,rfl⟩:=hcut;by_cases k0:x.kind=0
 .skip
  have e0:(x.kind==0)=true:=by simp[k0]
  have HR:=ah (fm7 m k0);try rw[dK.o]at HR
  try rw[fh.o]at HR
  try rw[o_.o]at HR
  try rw[D.o]at HR
  try rw[z.o]at HR
  try rw[C.o]at HR
  clear k0;cases it with
  |false=>exact Mt
  |true=>
   have dh:=Zk dK.o;have bF:=Mr dK.o;obtain⟨y,hy⟩:∃y,m.items[(x.item - 1).toNat]?=WX y:=⟨_,Xd YN⟩;have cw9:=ah (fl2 hy);obtain⟨b,o,cs,rfl,j,_,⟨yo,rfl,_⟩,bb⟩:=mh.o.at_ hy;have e1:=(bo.o.cell (p:=⟨b,o+(x.item - 1).toNat*7+1,WY⟩) j).trans (bb 1 _ rfl);rw[show(x.item - 1).toNat=x.item.toNat - 1 by omega]at e1;have q1:IntKind.i64.wrap (x.item - 1)=x.item - 1:=XK _ YN;have q3:(0:Int)<=x.item - 1:=YN;have q4:x.item - 1<m.items.length:=YN;rw[cw9.o]at HR;clear hy bb dh bF;by_cases V:y.kind=0
   .have ey:(y.kind==0)=true:=by simp[V]
    have Rp:=ah (show WZ (y.kind=0)=Xe by simp[V]);rw[Rp.o]at HR;clear V;cases pl with
    |false=>exact Mt
    |true=>exact Mt
   .have ey:(y.kind==0)=false:=by simp[V]
    have Rp:=ah (show WZ (y.kind=0)=Xc by simp[V]);rw[Rp.o]at HR;clear V;cases pl with
    |false=>exact Mt
    |true=>exact Mt
 .have e0:(x.kind==0)=false:=by simp[k0]
  have K0:=ah k0;clear k0;by_cases k1:x.kind=1
  .skip
   have e1:(x.kind==1)=true:=by simp[k1]
   have HR:=ah (fm8 m k1);try rw[dK.o]at HR
   try rw[fh.o]at HR
   try rw[o_.o]at HR
   try rw[D.o]at HR
   try rw[z.o]at HR
   try rw[C.o]at HR
   clear k1;obtain⟨c0,eT⟩:∃q,aD x.n 0 16=q:=⟨_,rfl⟩;rw[eT]at HR;have sH:=ah eT;clear eT;cases it with
   |false=>exact uq
   |true=>exact uq
  .have e1:(x.kind==1)=false:=by simp[k1]
   have K1:=ah k1;clear k1;by_cases G:x.kind=2
   .skip
    have e2:(x.kind==2)=true:=by simp[G]
    have HR:=ah (fk7 m G);try rw[dK.o]at HR
    try rw[fh.o]at HR
    try rw[o_.o]at HR
    try rw[D.o]at HR
    try rw[z.o]at HR
    try rw[C.o]at HR
    clear G;obtain⟨c0,eT⟩:∃q,aD x.by_ 2 4=q:=⟨_,rfl⟩;rw[eT]at HR;have sH:=ah eT;clear eT;obtain⟨c1,bA⟩:∃q,aD x.n 0 16=q:=⟨_,rfl⟩;rw[bA]at HR;have BM:=ah bA;clear bA;cases it with
    |false=>exact uq
    |true=>exact uq
   .have e2:(x.kind==2)=false:=by simp[G]
    have K2:=ah G;clear G;by_cases I:x.kind=3
    .skip
     have e3:(x.kind==3)=true:=by simp[I]
     have HR:=ah (fk8 m I);try rw[dK.o]at HR
     try rw[fh.o]at HR
     try rw[o_.o]at HR
     try rw[D.o]at HR
     try rw[z.o]at HR
     try rw[C.o]at HR
     clear I;cases it with
     |false=>
      cases b3 with
      |false=>exact Qd
      |true=>exact Qd
     |true=>
      cases b3 with
      |false=>exact Qd
      |true=>exact Qd
    .have e3:(x.kind==3)=false:=by simp[I]
     have K3:=ah I;clear I;by_cases J:x.kind=4
     .skip
      have e4:(x.kind==4)=true:=by simp[J]
      have HR:=ah (fk9 m J);try rw[dK.o]at HR
      try rw[fh.o]at HR
      try rw[o_.o]at HR
      try rw[D.o]at HR
      try rw[z.o]at HR
      try rw[C.o]at HR
      clear J;cases it with
      |false=>
       cases b2 with
       |false=>exact uq
       |true=>exact uq
      |true=>
       cases b2 with
       |false=>exact uq
       |true=>exact uq
     .have e4:(x.kind==4)=false:=by simp[J]
      have K4:=ah J;clear J;by_cases O:x.kind=5
      .skip
       have e5:(x.kind==5)=true:=by simp[O]
       have HR:=ah (fl0 m O);try rw[dK.o]at HR
       try rw[fh.o]at HR
       try rw[o_.o]at HR
       try rw[D.o]at HR
       try rw[z.o]at HR
       try rw[C.o]at HR
       clear O;obtain⟨c0,eT⟩:∃q,aD x.n 0 200=q:=⟨_,rfl⟩;rw[eT]at HR;have sH:=ah eT;clear eT;exact uq
      .have e5:(x.kind==5)=false:=by simp[O]
       have K5:=ah O;clear O;by_cases U:x.kind=6
       .skip
        have e6:(x.kind==6)=true:=by simp[U]
        have HR:=ah (fl1 m U);try rw[dK.o]at HR
        try rw[fh.o]at HR
        try rw[o_.o]at HR
        try rw[D.o]at HR
        try rw[z.o]at HR
        try rw[C.o]at HR
        clear U;obtain⟨c0,eT⟩:∃q,aD x.n 0 16=q:=⟨_,rfl⟩;rw[eT]at HR;have sH:=ah eT;clear eT;cases it with
        |false=>
         cases pl with
         |false=>exact uq
         |true=>exact uq
        |true=>
         cases pl with
         |false=>exact uq
         |true=>exact uq
       .have e6:(x.kind==6)=false:=by simp[U]
        have K6:=ah U;clear U;have HR:=ah (ar7 m x (by rintro⟨h1,h2⟩;have:=K0.o;have:=K1.o;have:=K2.o;have:=K3.o;have:=K4.o;have:=K5.o;have:=K6.o;omega));go_wp2_with first
         |(go_at_call 123;refine pZ ?_;rintro e w3 ⟨rfl,hw⟩;obtain rfl:=hw.symm;first|rw[dK.o]|rw[fh.o])
        go_ret;exact⟨cd HR.o.symm,bo.o⟩
end
end Go.Proofs.YtpfienbhhhgpkaaGreatDoor
