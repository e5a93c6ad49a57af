/- A part of the proof. -/
import Derived.Test.YtpfienbhhhgpkaaGreatDoorQbh
import Derived.Test.YtpfienbhhhgpkaaGreatDoorQbi
set_option linter.defProp false
set_option linter.unusedVariables false
set_option linter.unusedSimpArgs false
set_option maxRecDepth 100000
set_option maxHeartbeats 32000000
open Option renaming some->WX,none->WY
open Decidable renaming decide->WZ
open Go renaming World->Xa,Value->Xb,Calls->Xq,TypeId->Xv,maxLen->XF,Addr->Yy
open Bool renaming false->Xc,true->Xe
open Go.RowKit renaming Hid->Xf
open And renaming intro->Xi
open Go.Proofs.Tryz renaming prog->Xn
open Go.Proofs renaming intOf->Xw
open Go.Value renaming int->Xo,string->Xp,slice->YG,bool->YH,pointer->YK
open Go.World renaming setCell->Ye,cell?->Yx
open Go.IntKind renaming i64->XO
open Go.Ending renaming returned->Ya
open Go.Obj renaming cells->YI
open Go.Operand renaming tmp->YL,const->YM
namespace Go.Proofs.YtpfienbhhhgpkaaGreatDoor
section
open Go Go.RowKit Go.MapKept Go.Proofs.Tryz
def mg(ob:Nat)(w w':Xa):Prop:=w.heap.size<=w'/\∀i C t f,w.heap[i]?=WX (YI C t f)->¬i=ob->¬t=9->w'.heap[i]?=WX (YI C t f)
def mg.refl(ob:Nat)(w:Xa):mg ob w w:=⟨am _,λ_ _ _ _ h _ _=>h⟩
def mg.trans{ob:Nat}{a b c:Xa}(h:mg ob a b)(k:mg ob b c):mg ob a c:=⟨bQ h.1 k.1,λi C t f z j y=>k.2 i C t f (h.2 i C t f z j y) j y⟩
def mg.of_below{ob:Nat}{w w':Xa}(h:Below w w w'):mg ob w w':=⟨h.size,λi C t f c _ _=>aC c h⟩
def bp.sk{w:Xa}{B:Nat}{v:Xb}{l:List ar}(h:bp w B v l):bU 1 (R1 λs=>Xp (bs s)) w B v l:=by
 have c:Sl w B v (l.map λs=>Xp (bs s)):=by
  unfold bp cB at h
  rwa [X5]at h
 exact c.k1
def bp.cell{w:Xa}{B n c:Nat}{A:Option Yy}{l:List ar}(h:bp w B (YG A n c) l){j:Nat}{x:ar}(hx:l[j]?=WX x):∃b o,A=WX ⟨b,o,WY⟩/\b<B/\w.cell? ⟨b,o+j,WY⟩=WX (Xp (bs x)):=by exact as1
def gz(m:aT):Nat->List ar
 |0=>m.sites
 |1=>m.feeds
 |2=>m.racks.map (·.name)
 |3=>m.machs.map (·.name)
 |4=>m.items.map (·.name)
 |_=>[]
def rL:Nat->Nat
 |0=>318
 |1=>320
 |2=>322
 |3=>324
 |_=>326
def rM:Nat->Nat
 |0=>319
 |1=>321
 |2=>323
 |3=>325
 |_=>327
def uv(mb:Nat):Nat->Array Xb
 |0=> #[]
 |1=> #[]
 |2=> #[]
 |3=> #[]
 |_=> #[aq mb]
def wk(m:aT):Nat->List ar
 |0=>[]
 |k+1=>wk m k++gz m k
def em3(m:aT):wk m 5=cY m:=by simp[wk,gz,cY]
def em4(m:aT)(k:Nat)(c:k<5):(wk m k).length+(gz m k).length<=(cY m).length:=by have:k=0\/k=1\/k=2\/k=3\/k=4:=YN;rcases this with rfl|rfl|rfl|rfl|rfl<;>simp[wk,gz,cY]<;>omega
def qQ(m:aT)(v:MV)(mb B:Nat)(w:Xa):Prop:=w.heap[mb]?=WX (YI (m.cells v) 29 (0,0))/\m.In w B v
section
variable {m:aT} {v:MV} {mb B:Nat} {w:Xa}
def em5(h:qQ m v mb B w)(D:B<=w){j:Nat}{s:ar}(y:m.sites[j]?=WX s):Xq Xn 318 #[j,aq mb] w λe w'=>e=Ya (Xp (bs s))/\w'=w:=by
 obtain⟨hm,hv⟩:=h;obtain⟨A,c,he,h1,h2⟩:∃A c,v.s=YG A m.sites.length c/\m.sites.length<=c/\c<=9223372036854775807:=by obtain⟨a0,a1,_⟩:=hv.cells;exact a0
 have hx:bp w B v.s m.sites:=hv.ss;rw[he]at hx;obtain⟨b,o,rfl,hb,hc⟩:=hx.cell y;have C:w.cell? mb=WX (YG (WX (b o WY)) m.sites.length c):=GB;have F:j<m.sites.length:=(List.getElem?_eq_some_iff.1 y).1;have G:(0:Int)<=(j:Int):=YN;have z:(j:Int)<(m.sites.length:Nat):=YN;clear hm hv he hx y;simp only[aq];go_enter func318,ntmps318;exact CR
def em6(h:qQ m v mb B w)(D:B<=w){j:Nat}{s:ar}(y:m.feeds[j]?=WX s):Xq Xn 320 #[j,aq mb] w λe w'=>e=Ya (Xp (bs s))/\w'=w:=by
 obtain⟨hm,hv⟩:=h;obtain⟨A,c,he,h1,h2⟩:∃A c,v.f=YG A m.feeds.length c/\m.feeds.length<=c/\c<=9223372036854775807:=by obtain⟨a0,a1,_⟩:=hv.cells;exact a1
 have hx:bp w B v.f m.feeds:=hv.fs;rw[he]at hx;obtain⟨b,o,rfl,hb,hc⟩:=hx.cell y;have C:w.cell? (mb 1 WY)=WX (YG (WX (b o WY)) m.feeds.length c):=GB;have F:j<m.feeds.length:=(List.getElem?_eq_some_iff.1 y).1;have G:(0:Int)<=(j:Int):=YN;have z:(j:Int)<(m.feeds.length:Nat):=YN;clear hm hv he hx y;simp only[aq];go_enter func320,ntmps320;exact CR
def em7(h:qQ m v mb B w)(G:B<=w){j:Nat}{y:lS}(z:m.racks[j]?=WX y):Xq Xn 322 #[j,aq mb] w λe w'=>e=Ya (Xp (bs y.name))/\w'=w:=by
 obtain⟨hm,hv⟩:=h;obtain⟨A,c,he,h1,h2⟩:∃A c,v.r=YG A m.racks.length c/\m.racks.length<=c/\c<=9223372036854775807:=by obtain⟨a0,a1,a2,a3,a4,a5,_⟩:=hv.cells;exact a2
 have hx:=hv.rs;rw[he]at hx;obtain⟨b,o,cs,rfl,hb,_,hR,hc⟩:=hx.at_ z;obtain⟨rfl,_⟩:=hR;have F:w.cell? (mb 2 WY)=WX (YG (WX (b o WY)) m.racks.length c):=GB;have C:=hc 0 _ rfl;simp only[Xt]at C;have I:j<m.racks.length:=(List.getElem?_eq_some_iff.1 z).1;have J:(0:Int)<=(j:Int):=YN;have D:(j:Int)<(m.racks.length:Nat):=YN;clear hm hv he hx z hc;simp only[aq];go_enter func322,ntmps322;exact CR
def em8(h:qQ m v mb B w)(G:B<=w){j:Nat}{y:p7}(z:m.machs[j]?=WX y):Xq Xn 324 #[j,aq mb] w λe w'=>e=Ya (Xp (bs y.name))/\w'=w:=by
 obtain⟨hm,hv⟩:=h;obtain⟨A,c,he,h1,h2⟩:∃A c,v.m=YG A m.machs.length c/\m.machs.length<=c/\c<=9223372036854775807:=by obtain⟨a0,a1,a2,a3,a4,a5,_⟩:=hv.cells;exact a3
 have hx:=hv.ms;rw[he]at hx;obtain⟨b,o,cs,rfl,hb,_,hR,hc⟩:=hx.at_ z;obtain⟨rfl,_⟩:=hR;have F:w.cell? (mb 3 WY)=WX (YG (WX (b o WY)) m.machs.length c):=GB;have C:=hc 0 _ rfl;simp only[Xt]at C;have I:j<m.machs.length:=(List.getElem?_eq_some_iff.1 z).1;have J:(0:Int)<=(j:Int):=YN;have D:(j:Int)<(m.machs.length:Nat):=YN;clear hm hv he hx z hc;simp only[aq];go_enter func324,ntmps324;exact CR
def em9(h:qQ m v mb B w)(G:B<=w){j:Nat}{y:em}(z:m.items[j]?=WX y):Xq Xn 326 #[j,aq mb] w λe w'=>e=Ya (Xp (bs y.name))/\w'=w:=by
 obtain⟨hm,hv⟩:=h;obtain⟨A,c,he,h1,h2⟩:∃A c,v.i=YG A m.items.length c/\m.items.length<=c/\c<=9223372036854775807:=by obtain⟨a0,a1,a2,a3,a4,a5,_⟩:=hv.cells;exact a5
 have hx:=hv.is;rw[he]at hx;obtain⟨b,o,cs,rfl,hb,_,hR,hc⟩:=hx.at_ z;obtain⟨yo,rfl,_⟩:=hR;have F:w.cell? (mb 5 WY)=WX (YG (WX (b o WY)) m.items.length c):=GB;have C:=hc 0 _ rfl;simp only[Xt]at C;have I:j<m.items.length:=(List.getElem?_eq_some_iff.1 z).1;have J:(0:Int)<=(j:Int):=YN;have D:(j:Int)<(m.items.length:Nat):=YN;clear hm hv he hx z hc;simp only[aq];go_enter func326,ntmps326;exact CR
def en0(k:Int)(w:Xa):Xq Xn 328 #[k] w λe w'=>(∃n:Int,e=Ya (Xo XO n))/\w'=w:=by
 by_cases c:(k==0)=Xe
 .go_enter func328,ntmps328;exact Fg
 .have y:(k==0)=false:=by simpa using c
  clear c;by_cases j:(k==1)=Xe
  .go_enter func328,ntmps328;exact Fg
  .have z:(k==1)=false:=by simpa using j
   clear j;go_enter func328,ntmps328;exact Fg
def en1(j:Int)(w:Xa):Xq Xn 319 #[j] w λe w'=>(∃n:Int,e=Ya (Xo XO n))/\w'=w:=by go_enter func319,ntmps319;exact Fg
def en2(j:Int)(w:Xa):Xq Xn 321 #[j] w λe w'=>(∃n:Int,e=Ya (Xo XO n))/\w'=w:=by go_enter func321,ntmps321;exact Fg
def en3(j:Int)(w:Xa):Xq Xn 323 #[j] w λe w'=>(∃n:Int,e=Ya (Xo XO n))/\w'=w:=by go_enter func323,ntmps323;exact Fg
def en4(j:Int)(w:Xa):Xq Xn 325 #[j] w λe w'=>(∃n:Int,e=Ya (Xo XO n))/\w'=w:=by go_enter func325,ntmps325;exact Fg
def en5(h:qQ m v mb B w)(I:B<=w){j:Nat}(C:j<m.items.length):Xq Xn 327 #[j,aq mb] w λe w'=>(∃n:Int,e=Ya (Xo XO n))/\w'=w:=by
 obtain⟨hm,hv⟩:=h;obtain⟨A,c,he,h1,h2⟩:∃A c,v.i=YG A m.items.length c/\m.items.length<=c/\c<=9223372036854775807:=by obtain⟨a0,a1,a2,a3,a4,a5,_⟩:=hv.cells;exact a5
 have hx:=hv.is;rw[he]at hx;obtain⟨y,hy⟩:∃y,m.items[j]?=WX y:=⟨_,Xd C⟩;obtain⟨b,o,cs,rfl,hb,_,hR,hc⟩:=hx.at_ hy;obtain⟨yo,rfl,_⟩:=hR;have F:w.cell? (mb 5 WY)=WX (YG (WX (b o WY)) m.items.length c):=GB;have G:=hc 1 _ rfl;have z:=ah (λW=>en0 y.kind W);have J:(0:Int)<=(j:Int):=YN;have D:(j:Int)<(m.items.length:Nat):=YN;clear hm hv he hx hc hy;simp only[aq];go_enter func327,ntmps327;go_wp2_with(go_at_call 328;refine(z.o _).m ?_;rintro e O ⟨⟨n,rfl⟩,rfl⟩)
 go_ret;exact⟨⟨_,rfl⟩,rfl⟩
def en6(h:qQ m v mb B w)(c:B<=w){k j:Nat}{s:ar}(A:k<5)(z:(gz m k)[j]?=WX s):Xq Xn (rL k) #[j,aq mb] w λe w'=>e=Ya (Xp (bs s))/\w'=w:=by
 have:k=0\/k=1\/k=2\/k=3\/k=4:=YN;rcases this with rfl|rfl|rfl|rfl|rfl
 .exact em5 h c z
 .exact em6 h c z
 all_goals
  simp only[gz,Xr,Option.map_eq_some_iff]at z;obtain⟨y,hy,rfl⟩:=z
 .exact em7 h c hy
 .exact em8 h c hy
 .exact em9 h c hy
def en7(h:qQ m v mb B w)(c:B<=w){k j:Nat}(z:k<5)(y:j<(gz m k).length):Xq Xn (rM k) (#[Xo XO j]++uv mb k) w λe w'=>(∃n:Int,e=Ya (Xo XO n))/\w'=w:=by
 have:k=0\/k=1\/k=2\/k=3\/k=4:=YN;rcases this with rfl|rfl|rfl|rfl|rfl
 .exact en1 j w
 .exact en2 j w
 .exact en3 j w
 .exact en4 j w
 .exact en5 h c (by simpa[gz]using y)
def en8{k:Nat}(c:k<5):dw (rL k):=by
 have:k=0\/k=1\/k=2\/k=3\/k=4:=YN;rcases this with rfl|rfl|rfl|rfl|rfl
 .exact Xk func318 aI rfl
 .exact Xk func320 aI rfl
 .exact Xk func322 aI rfl
 .exact Xk func324 aI rfl
 .exact Xk func326 aI rfl
def en9{k:Nat}(c:k<5):dw (rM k):=by
 have:k=0\/k=1\/k=2\/k=3\/k=4:=YN;rcases this with rfl|rfl|rfl|rfl|rfl
 .exact Xk func319 aI rfl
 .exact Xk func321 aI rfl
 .exact Xk func323 aI rfl
 .exact Xk func325 aI rfl
 .exact Xk func327 aI rfl
end
end
section
open Go Go.RowKit Go.Proofs.Tryz
def Y3{p:PS}(h:¬(p.e=0/\p.head.kind=2/\p.head.text=eD)):p.alw=p:=by unfold PS.alw;rw[if_neg h]
def es4{p:PS}(h:p.e=0/\p.head.kind=2/\p.head.text=eD):p.alw={(p.take 2 []).1 with d:={(p.take 2 []).1.d with always:=Xe}}:=by unfold PS.alw;rw[if_pos h]
def es5(pb B M:Nat)(p:PS)(w:Xa)(h:bV w pb B M p):
 Xq Xn 223 #[aq pb] w (sD w pb B M p.alw):=by
 have HP:=ah h;have bd:=h.size;have j:=h.ok;have HN:=ah (λW(z:bV W pb B M p)=>FE pb B M p W z);have HT:=ah (λW(z:bV W pb B M p)=>zz pb B M p W 2 2 [] (YG WY 0 0) rfl z aF (bp.nil_ _ _));obtain⟨tv,r,n,h1,h2,h3,h4,h5,h6,h7⟩:=id h;obtain⟨t,ts,ui,hh,vU⟩:=h7.cons;rw[hh]at HN;unfold aq at HN HT;rw[nM]at HN;have I:=blk_lt h1;have H1:=ah h1;have y:=ah hh;have uU:=ah j;clear h h1 h2 h3 h4 h7 hh ui vU j;by_cases he:p.e=0
 .have C:((p.e:Int)==0)=true:=by simp;omega
  by_cases hk:t.kind=2
  .have F:((t.kind:Int)==2)=true:=by simp;omega
   by_cases ht:t.text=eD
   .have D:((bs t.text).toList==[97,108,119,97,121,115])=true:=ay7 ht;have HC:Hid (p.alw={(p.take 2 []).1 with d:={(p.take 2 []).1.d with always:=true}}):=es4 (by rw[y.o];exact⟨he,hk,ht⟩)
    clear he hk ht;simp only[aq];go_enter func223,ntmps223;go_wp2_with first
     |(go_at_call 49;refine(HN.o _ HP.o).m ?_;rintro e w1 ⟨rfl,ay⟩;have nR:=aC H1.o ay;refine FG λp1 xD=>?_;have bk:=ah ay;clear nR ay)
     |(go_at_call 138;refine(HT.o _ ((HP.o.later bk.o).later (ai (aj w1) _))).mono ?_;unfold qT;rintro e w2 ⟨rfl,d',d_,iM⟩;obtain⟨kr,cG,c1,c2,c3,c6,c7⟩:=d'.cells;have f7:=cG 7;have gR:=ah d';have jo:=ah d_;clear d' d_ iM cG)
    go_end0
    rw[HC.o];have c:=gR.o;have A:PS.Ok {(p.take 2 []).1 with d:={(p.take 2 []).1.d with always:=Xe}} M:=⟨c.ok.last,c.ok.toks,c.ok.nums,c.ok.e,c.ok.by_,c.ok.n⟩;have G:bV (w2.setCell (pb 7 WY) (YH Xe)) pb B M {(p.take 2 []).1 with d:={(p.take 2 []).1.d with always:=Xe}}:=c.setD rfl rfl rfl (λ_ _ _=>rfl) A;exact⟨rfl,G.more (Yi M),λ_=>A,(((aK.of_below bk.o bd.2 bk.o.size).alloc bd.2 _).trans (jo.o.mono (by have:=bk.o.size;simp;omega))).set (.inl rfl) _⟩
   .have D:((bs t.text).toList==[97,108,119,97,121,115])=false:=ay8 ht;have HC:Hid (p.alw=p):=Y3 (λh=>ht (by rw[<-y.o];exact h.2.2));exact Y5
  .have F:((t.kind:Int)==2)=false:=by simp;omega
   have HC:Hid (p.alw=p):=Y3 (λh=>hk (by rw[<-y.o];exact h.2.1));exact Y5
 .have C:((p.e:Int)==0)=false:=by simp;omega
  have HC:Hid (p.alw=p):=Y3 (λh=>he h.1);exact Y5
def au5{p:PS}(h:p.comma.2=Xe):p.e=0:=by
 by_cases c:p.e≠0\/p.head.kind≠4\/p.head.text≠[44]
 .rw[LS c]at h;cases h
 .apply Classical.byContradiction;intro j;exact c (.inl j)
def es6{p:PS}(h:p.comma.2=Xc):p.comma.1=p:=by
 by_cases c:p.e≠0\/p.head.kind≠4\/p.head.text≠[44]
 .rw[LS c]
 .rw[ay6 c]at h;cases h
def es7(pb B M:Nat)(p:PS)(w:Xa)(hM:M<=1000000)(h:bV w pb B M p):
 Xq Xn 221 #[aq pb] w (sD w pb B M p.list):=by
 have HP:=ah h;have bd:=h.size;have Er:=λa b c d w=>ay9 a b c d w;have Z:=ah (λW q(hW:bV W pb B M q)=>au4 pb B M q W hM hW);have HL:Hid (p.list=PS.listGo 1 p.ref):=rfl;have eN:=PS.ref_le p;have hL:p.ts.length<=M:=by have:=h.ok.toks;omega
 unfold aq at Z;obtain⟨L,Ec⟩:∃L,p.ts.length=L:=⟨_,rfl⟩;rw[Ec]at eN hL;clear h Ec;simp only[aq];go_enter func221,ntmps221;go_wp2_with(go_at_call 220;refine(Z.o _ p HP.o).mono ?_;unfold sD;rintro e w1 ⟨rfl,Th,NX,cc0⟩)
 go_loopw [2] (λi wr=>∃(k:Nat)(q:PS),i=Xo XO k/\1<=k/\k+q.ts.length<=L+1/\bV wr pb B (M+1) q/\(q.e=0->q.Ok M)/\aK B pb w wr/\p.list=PS.listGo k q) (λi _=>L+2 - (Xw i).toNat)
 case atStart=>exact⟨1,p.ref,rfl,am _,by omega,Th,NX,cc0,HL.o⟩
 case round=>
  obtain⟨k,q,rfl,jJ,G_,jz,wS,oD,Ez⟩:=hrel;have Na:=ah Ez;have qj:=ah oD;have MR:=ah jz.size.2;have fR:IntKind.i64.wrap ((k:Int)+1)=(k:Int)+1:=XK _ YN;clear Ez oD;cases hb:q.comma.2 with
  |false=>
   have D:=ah (YY pb B (M+1) q wr jz);have rU:=es6 hb;rw[show q.comma=(q,Xc)from Prod.ext rU hb]at D;unfold aq at D;have F:Hid (PS.listGo k q=q):=by show _=_;rw[PS.listGo,dif_neg (by rw[hb];simp)];exact rU
   have HO:=ah wS;clear hb rU jz wS;go_wp2_with(go_at_call 284;refine D.o.mono ?_;unfold Im;rintro e w2 ⟨rfl,j,A,_⟩;have y:=ah j;have X:=ah A;clear j A)
   go_end0
   rw[Na.o,F.o];exact⟨rfl,y.o,HO.o,qj.o.trans (X.o.mono MR.o)⟩
  |true=>
   have he:=au5 hb;have KJ:=jz.okM (wS he);have D:=ah (YY pb B M q wr KJ);have az:=PS.comma_lt q hb;have F:Hid (PS.listGo k q=PS.listGo (k+1) (if k=16/\q.comma.1.head.kind=1 then q.comma.1.fail 8 else q.comma.1).ref):=by show _=_;rw[PS.listGo,dif_pos hb]
   obtain⟨c,za⟩:∃c,q.comma.1=c:=⟨_,rfl⟩;rw[show q.comma=(c,Xe)from Prod.ext za hb]at D;rw[za]at az F;clear hb jz wS he KJ za;have Y:=ah (λW(hW:bV W pb B M c)=>FE pb B M c W hW);have DA:=ah (λW(hW:bV W pb B M c)=>LR pb B M c W 8 hW YN);unfold aq at D Y DA;rw[nM]at Y;by_cases pD:k=16
   .have Oe:((k:Int)==16)=true:=by simp;omega
    by_cases Od:c.head.kind=1
    .have jC:((c.head.kind:Int)==1)=true:=by simp;omega
     rw[if_pos ⟨pD,Od⟩]at F;have gi2:=PS.fail_ts c 8;clear Od
     go_wp2_with first
                 |(go_at_call 284;refine D.o.mono ?_;unfold Im;rintro e w2 ⟨rfl,j,A,_⟩;have y:=ah j;have X:=ah A;have V:=ah j.size.2;clear j A)
                 |(go_at_call 49;refine(Y.o _ y.o).m ?_;rintro e w3 ⟨rfl,z⟩;have C:=ah z;have Q1:=ah (bQ V.o z.size);clear z)
                 |(go_at_call 50;refine(DA.o _ (y.o.later C.o)).m ?_;rintro e w4 ⟨rfl,I,G,sU⟩;have ml:=ah I;have gH:=ah G;clear I G sU)
                 |(go_at_call 220;refine(Z.o _ (c.fail 8) ml.o).mono ?_;unfold sD;rintro e w5 ⟨rfl,J,U,O⟩;have mp:=ah J;have mj:=ah U;have gJ:=ah O;clear J U O)
     refine⟨⟨k+1,(c.fail 8).ref,by go_num,by omega,?_,mp.o,mj.o,(qj.o.trans (X.o.mono MR.o)).trans ((((aK.of_below C.o (V.o) C.o.size)).trans (gH.o.mono Q1.o)).trans gJ.o),?_⟩,by simp[Xw];omega⟩
     .have:=PS.ref_le (c.fail 8);rw[gi2]at this;omega
     .rw[Na.o,F.o]
    .have jC:((c.head.kind:Int)==1)=false:=by simp;omega
     rw[if_neg (λh=>Od h.2)]at F;clear Od
     go_wp2_with first
                 |(go_at_call 284;refine D.o.mono ?_;unfold Im;rintro e w2 ⟨rfl,j,A,_⟩;have y:=ah j;have X:=ah A;have V:=ah j.size.2;clear j A)
                 |(go_at_call 49;refine(Y.o _ y.o).m ?_;rintro e w3 ⟨rfl,z⟩;have C:=ah z;have Q1:=ah (bQ V.o z.size);clear z)
                 |(go_at_call 50;refine(DA.o _ (y.o.later C.o)).m ?_;rintro e w4 ⟨rfl,I,G,sU⟩;have ml:=ah I;have gH:=ah G;clear I G sU)
                 |(go_at_call 220;refine(Z.o _ c (y.o.later C.o)).mono ?_;unfold sD;rintro e w5 ⟨rfl,J,U,O⟩;have mp:=ah J;have mj:=ah U;have gJ:=ah O;clear J U O)
     refine⟨⟨k+1,c.ref,by go_num,by omega,?_,mp.o,mj.o,(qj.o.trans (X.o.mono MR.o)).trans ((aK.of_below C.o (V.o) C.o.size).trans gJ.o),?_⟩,by simp[Xw];omega⟩
     .have:=PS.ref_le c;omega
     .rw[Na.o,F.o]
   .have Oe:((k:Int)==16)=false:=by simp;omega
    rw[if_neg (λh=>pD h.1)]at F
    go_wp2_with first
                |(go_at_call 284;refine D.o.mono ?_;unfold Im;rintro e w2 ⟨rfl,j,A,_⟩;have y:=ah j;have X:=ah A;have V:=ah j.size.2;clear j A)
                |(go_at_call 49;refine(Y.o _ y.o).m ?_;rintro e w3 ⟨rfl,z⟩;have C:=ah z;have Q1:=ah (bQ V.o z.size);clear z)
                |(go_at_call 50;refine(DA.o _ (y.o.later C.o)).m ?_;rintro e w4 ⟨rfl,I,G,sU⟩;have ml:=ah I;have gH:=ah G;clear I G sU)
                |(go_at_call 220;refine(Z.o _ c y.o).mono ?_;unfold sD;rintro e w5 ⟨rfl,J,U,O⟩;have mp:=ah J;have mj:=ah U;have gJ:=ah O;clear J U O)
    refine⟨⟨k+1,c.ref,by go_num,by omega,?_,mp.o,mj.o,(qj.o.trans (X.o.mono MR.o)).trans gJ.o,?_⟩,by simp[Xw];omega⟩
    .have:=PS.ref_le c;omega
    .rw[Na.o,F.o]
def sE(w:Xa)(pb B:Nat)(u:Xb)(x:kF):Prop:=
 ∃g bnd caps,u= .func (.func g) bnd caps/\dw g/\∀(W:Xa)(B' M:Nat)(p:PS),M<=1000000->aK B pb w W->B<=B'->bV W pb B' M p->Xq Xn g (bnd++caps) W (sD W pb B' M (p.part x))
def sE.keep{w w':Xa}{pb B B₂:Nat}{u:Xb}{x:kF}(h:sE w pb B u x)(C:aK B pb w w')(y:B<=B₂):sE w' pb B₂ u x:=by obtain⟨g,bnd,caps,h1,h2,h3⟩:=h;exact⟨g,bnd,caps,h1,h2,λW B' M p z A j D=>h3 W B' M p z (C.trans (A.mono y)) (bQ y j) D⟩
def LU(w:Xa)(pb B:Nat)(v:Xb)(l:List kF):Prop:=
 ∃b c,v=YG (WX ⟨b,0,WY⟩) l.length c/\l.length<=c/\c<=XF/\pb<b/\b<B/\∀(j:Nat)x,l[j]?=WX x->∃u,w.cell? ⟨b,j,WY⟩=WX u/\sE w pb B u x
def aK.cell{B pb:Nat}{w w':Xa}(h:aK B pb w w'){b:Nat}(o:Nat)(c:b<B)(j:¬b=pb):w'.cell? (b o WY)=w.cell? (b o WY):=Yp (h.block b c j)
def LU.keep{w w':Xa}{pb B B₂:Nat}{v:Xb}{l:List kF}(h:LU w pb B v l)(z:aK B pb w w')(y:B<=B₂):LU w' pb B₂ v l:=by obtain⟨b,c,h1,h2,h3,h4,h5,h6⟩:=h;refine⟨b,c,h1,h2,h3,h4,bt h5 y,λj x hx=>?_⟩;obtain⟨u,h7,h8⟩:=h6 j x hx;exact⟨u,(z.cell j h5 YN).trans h7,h8.keep z y⟩
def FI(w:Xa)(pb B:Nat)(v:Xb):Prop:=
 ∃b,v=YG (WX ⟨b,0,WY⟩) 17 17/\pb<b/\b<B/\∀(i:Nat)r,rules[i]?=WX r->∃pv,w.cell? ⟨b,i*3,WY⟩=WX (Xp (bs r.1))/\w.cell? ⟨b,i*3+1,WY⟩=WX (Xo XO i)/\w.cell? ⟨b,i*3+2,WY⟩=WX pv/\LU w pb B pv r.2
def FI.keep{w w':Xa}{pb B B₂:Nat}{v:Xb}(h:FI w pb B v)(j:aK B pb w w')(y:B<=B₂):FI w' pb B₂ v:=by obtain⟨b,h1,h4,h5,h6⟩:=h;refine⟨b,h1,h4,bt h5 y,λi r z=>?_⟩;obtain⟨pv,h7,h8,h9,dD⟩:=h6 i r z;exact⟨pv,(j.cell _ h5 YN).trans h7,(j.cell _ h5 YN).trans h8,(j.cell _ h5 YN).trans h9,dD.keep j y⟩
def tB(_:Xa)(_:Nat)(cs:List Xb)(r:ar×List kF):Prop:=∃k b n c,cs=[Xp (bs r.1),Xo XO k,YG (WX ⟨b,0,WY⟩) n c]
def tB.ab:iR tB:=λ_ _ _ _ _ _ _ h _ _ _=>h
def FI.sl{w:Xa}{pb B:Nat}{v:Xb}(h:FI w pb B v):bU 3 tB w B v rules:=by
 obtain⟨b,rfl,h4,h5,h6⟩:=h;refine⟨_,17,rfl,by decide,by decide,λ_=>⟨b,0,rfl,h5,λj x hx=>?_⟩⟩;obtain⟨pv,h7,h8,h9,OM,pc,rfl,_⟩:=h6 j x hx;refine⟨[Xp (bs x.1),Xo XO j,YG (WX (OM 0 WY)) x.2.length pc],rfl,⟨j,OM,_,pc,rfl⟩,λi u c=>?_⟩;rw[Nat.zero_add]
 match i,c with
 |0,c=>simp at c;subst c;exact h7
 |1,c=>simp at c;subst c;exact h8
 |2,c=>simp at c;subst c;exact h9
 |i+3,c=>simp at c
def FJ{g pb:Nat}{x:kF}(c:dw g)(h:∀(W:Xa)(B M:Nat)(p:PS),M<=1000000->bV W pb B M p->Xq Xn g #[aq pb] W (sD W pb B M (p.part x)))(w:Xa)(B:Nat):sE w pb B (.func (.func g) #[aq pb] #[]) x:=
 ⟨g,#[aq pb],#[],rfl,c,λW B' M p j _ _ y=>h W B' M p j y⟩
def FK(w:Xa)(pb B:Nat):sE w pb B (.func (.func 219) #[aq pb] #[]) .name:=FJ (x:= .name) (Xk func219 aI rfl) (λW B M p _ c=>er4 pb B M p W c) w B
def tC(w:Xa)(pb B:Nat):sE w pb B (.func (.func 220) #[aq pb] #[]) .ref:=FJ (x:= .ref) (Xk func220 aI rfl) (λW B M p c j=>au4 pb B M p W c j) w B
def oP(w:Xa)(pb B:Nat):sE w pb B (.func (.func 218) #[aq pb] #[]) .number:=FJ (x:= .number) (Xk func218 aI rfl) (λW B M p c j=>es3 pb B M p W c j) w B
def Y6(w:Xa)(pb B:Nat):sE w pb B (.func (.func 221) #[aq pb] #[]) .list:=FJ (x:= .list) (Xk func221 aI rfl) (λW B M p c j=>es7 pb B M p W c j) w B
def es8(w:Xa)(pb B:Nat):sE w pb B (.func (.func 224) #[aq pb] #[]) .domain:=FJ (x:= .domain) (Xk func224 aI rfl) (λW B M p _ c=>es0 pb B M p W c) w B
def es9(w:Xa)(pb B:Nat):sE w pb B (.func (.func 223) #[aq pb] #[]) .alw:=FJ (x:= .alw) (Xk func223 aI rfl) (λW B M p _ c=>es5 pb B M p W c) w B
end
section
open Go Go.RowKit Go.Shelf Go.Lib Go.Proofs.Tryz
def et0:Go.Shelf.Ren:=⟨fun|10=>285|6=>21|n=>n,fun|0=>0|3=>3|4=>4|22=>22|23=>9|25=>59|n=>n,fun|n=>n⟩
def et1:Go.Proofs.SlLaysH.n10 Xn et0:={
 mixed:=aI
 f6:=⟨Tryz.f21.name,by decide,Tryz.func21.trans (congrArg WX aI)⟩
 f10:=⟨Tryz.f285.name,by decide,Tryz.func285.trans (congrArg WX aI)⟩
 t0:=underlying0
 a0:=Tryz.isAgg0
 z0:=Tryz.sizeOf0
 v0:=zeroValue0
 t3:=Xj
 a3:=Tryz.isAgg3
 z3:=Tryz.sizeOf3
 v3:=zeroValue3
 t4:=underlying4
 a4:=Tryz.isAgg4
 z4:=Tryz.sizeOf4
 v4:=zeroValue4
 t22:=underlying22
 a22:=Tryz.isAgg22
 z22:=Tryz.sizeOf22
 v22:=zeroValue22
 a23:=Tryz.isAgg9
 z23:=Tryz.sizeOf9
 t25:=underlying59
 a25:=Tryz.isAgg59
 z25:=Tryz.sizeOf59
 v25:=zeroValue59}
def tD(s:ar):Value:=Xp (bs s)
def au6(x word:ar)(b:Nat)(w:Xa)(h:w.cell? b=WX (Xp (bs word))):
 FnGives Xn 286 #[aq b] #[tD x] (YH (WZ (x=word))) w:=by
 show Xq Xn 286 #[bs x,aq b] w _;have c:((bs x).toList==(bs word).toList)=WZ (x=word):=by rw[gK,gK,eS,eS,Xz];simp
 simp only[aq];go_enter func286,ntmps286
 go_wp2
 all_goals (go_ret;exact⟨by simp_all,0,rfl⟩)
def et2(l:List ar)(word:ar)(blk cap c:Nat)(w:Xa)(C:Sort.Holds tD w blk 0 l.toArray)(F:w.cell? c=WX (Xp (bs word)))(G:c<w.heap.size)(J:¬c=blk)(A:l.length<=cap)(Z:cap<=100):
 Xq Xn 285 #[YG (WX (blk 0 WY)) l.length cap,bq 286 #[aq c]] w λe w'=>e=Ya (YG (WX (blk 0 WY)) (l.filter λs=> !WZ (s=word)).length cap)/\
  Sort.Holds tD w' blk 0 (l.filter λs=> !WZ (s=word)).toArray/\(∀i,¬i=blk->w'.heap[i]?=w.heap[i]?)/\w'.os=w.os/\w'.tape=w.tape/\w'.output=w.output/\w'.heap.size=w.heap.size:=by
 have U:∀args w,(callFunc 286 args).run Xn w= .ok (.enter 286 args) w:=Xk func286 aI rfl;have y:=AnyE.slices_DeleteFunc et1 tD (λ_=>rfl) (λx=>WZ (x=word)) 286 #[aq c] U [] (λw=>zeroValue9 w) blk 0 cap l.toArray w
  (λW x V=>au6 x word c W ((V.cell (p:=c) G).trans F))
  (λn os Y x _=>au6 x word c _ (by unfold sortWorld;rw[Sort.cell?_grow _ _ _ (by show c<(Sort.putRow _ _ _ _ _).heap.size;rw[Sort.size_putRow];exact G),Sort.cell?_putRow_other _ _ blk 0 _ _ (Or.inl J)];exact F)) C bP (by simpa using A)
 generalize D:(l.filter λs=> !WZ (s=word))=r;have hr:r.length<=l.length:=by rw[<-D];exact List.length_filter_le _ _
 have O:(l.toArray.toList.filter λx=> !WZ (x=word))=r:=D;rw[O]at y;refine y.m ?_;rintro e w' ⟨rfl,q,rfl⟩;have hold:∀i,¬i=blk->(Sort.putRow tD (Sort.ahead w q) blk 0 (r++List.replicate (l.toArray.size - r.length) []).toArray).heap[i]?=w.heap[i]? :=λi X=>by show(w.heap.modify blk _)[i]?=_;rw[Array.getElem?_modify,if_neg (λe=>X e.symm)]
 refine⟨rfl,λj hj=>?_,hold,rfl,rfl,rfl,by simp[Sort.ahead]⟩;have z:Sort.Holds tD (Sort.ahead w q) blk 0 l.toArray:=C;have h:=Sort.holds_putRow tD (Sort.ahead w q) blk 0 l.toArray (r++List.replicate (l.toArray.size - r.length) []).toArray z bP j (by simp at hj⊢;omega);have e:(r++List.replicate (l.toArray.size - r.length) []).toArray[j]! =r.toArray[j]! :=by have I:j<r.length:=Aw;rw[getElem!_pos _ j bP,getElem!_pos _ j hj];simp[List.getElem_append_left I]
 rw[e]at h;exact h
end
section
open Go Go.RowKit Go.Shelf Go.Lib Go.MapKept Go.Proofs.Tryz
def Io:List (ar×Int):=[(ox,1),(fH,2),(fU,4)]
def et3(s:ar):(Io.lookup s).getD 0=(gI s:Nat):=by
 unfold gI;by_cases c:s=ox
 .subst c;rfl
 by_cases h:s=fH
 .subst h;rfl
 by_cases j:s=fU
 .subst j;rfl
 have y:=beq_eq_false_iff_ne.2 c;have z:=beq_eq_false_iff_ne.2 h;have A:=beq_eq_false_iff_ne.2 j;simp[Io,List.lookup,y,z,A,c,h,j]
def au7(s:ar):gI s<=4:=by unfold gI;split<;>(try split)<;>(try split)<;>omega
def PB{w w':Xa}{b:Nat}{d:Array ar}(h:Sort.Holds tD w b 0 d)(e:w'.heap[b]?=w.heap[b]?):Sort.Holds tD w' b 0 d:=λj c=>by
 obtain⟨h1,h2⟩:=h j c;refine⟨(Yp (a:=⟨b,0+j,WY⟩) e).trans h1,?_⟩;simp only[World.frozen?,e]at h2⊢
 exact h2
def et4{w:Xa}{b c:Nat}{l:List ar}(h:Sort.Holds tD w b 0 l.toArray)(A:b<w)(C:l.length<=c)(D:c<=100):bp w w (YG (WX (b 0 WY)) l.length c) l:=by
 refine⟨_,c,by simp,by simpa using C,by simp[XF];omega,λ_=>⟨b,0,rfl,A,λj u y=>?_⟩⟩;have z:j<l.length:=by have:=(List.getElem?_eq_some_iff.1 y).1;simpa using this
 obtain⟨h1,_⟩:=h j (by simpa using z);rw[h1,getElem!_pos _ j (by simpa using z)];simp[Xd z]at y;rw[<-y];simp[tD]
def bV.del{w w':Xa}{pb B M blk:Nat}{p:PS}{r n:Xb}(h:bV w pb B M p)(G:w.cell? (pb 4 WY)=WX r)(I:w.cell? (pb 5 WY)=WX n)(J:∀g,r.ownBlock=WX g->¬g=blk)(A:∀g,n.ownBlock=WX g->¬g=blk)
 (Y:pb<blk)(z:∀i,¬i=blk->w'.heap[i]?=w.heap[i]?)(C:w'.os=w.os)(D:w'.tape=w.tape)(F:w'.output=w.output)(hs:w'.heap.size=w.heap.size):bV w' pb B M p:=by
 obtain⟨t,r',n',g1,g2,g3,g4,g5,g6,g7⟩:=h;have c:=ap (o:=4) g1 rfl;have j:=ap (o:=5) g1 rfl;rw[G]at c;rw[I]at j;injection c with c;injection j with j;subst c j;have own {e:Xv} {v:Xb} {k:Nat} {xs:List Xb} (ho:w.ownsRow B e 1 v k xs) (O:∀g,v.ownBlock=WX g->¬g=blk):w'.ownsRow B e 1 v k xs:=by
  refine⟨ho.1,?_⟩;rcases ho.2 with A|⟨g,cap,y,k1,U,V,X⟩
  .exact .inl A
  .exact .inr ⟨g,cap,y,k1,U,(z g (O g (by rw[k1];rfl))).trans V,X⟩
 refine⟨t,_,_,(z pb YN).trans g1,g2.to mA.ab (B₂:=pb) ⟨C,D,F,by omega,λi Z=>z i YN⟩ (am _) (am _),own g3 J,own g4 A,g5,by omega,g7⟩
def PS.clsR(q:PS×fI):PS:={q.1 with d:={q.1.d with by_:=q.1.d.by_+gI q.2.text}}
def et5{p:PS}{l:List ar}(c:l≠[]):p.classGo l=if(PS.clsR (p.take 2 l)).comma.2=Xe then PS.classGo (l.filter λs=> !WZ (s=(p.take 2 l).2.text)) (PS.clsR (p.take 2 l)).comma.1 else(PS.clsR (p.take 2 l)).comma.1:=by
 rw[PS.classGo,if_neg c];by_cases h:(PS.clsR (p.take 2 l)).comma.2=Xe
 .rw[if_pos h];exact dif_pos h
 .rw[if_neg h];exact dif_neg h
def et6{p:PS}{M:Nat}{l:List ar}(y:p.Ok M)(c:(p.take 2 l).1.Ok M):(PS.clsR (p.take 2 l)).Ok M:=by
 show PS.Ok {(p.take 2 l).1 with d:={(p.take 2 l).1.d with by_:=(p.take 2 l).1.d.by_+gI (p.take 2 l).2.text}} M;refine⟨c.last,c.toks,c.nums,c.e,?_,c.n⟩;have z:=c.by_;by_cases j:p.e≠0\/p.head.kind≠2\/(l≠[]/\p.head.text∉l)
 .rw[FF j]at z⊢
  have:gI ([]:ar)=0:=rfl;simp only[this];dsimp only at z⊢
  omega
 .rw[Il j];have:=au7 p.head.text;have h:=y.by_;obtain⟨a,r,h1,h2,h3⟩:=y.cons;simp only[h1,List.tail_cons];rw[h1]at h;simp at h;omega
def au8(w:Xa)(o:Obj){b:Nat}(h:b<w):(w.alloc o).heap[b]?=w.heap[b]? :=(ai (aj w) o).block b h
def au9(w:Xa){b o j:Nat}{u:Xb}(h:¬o=j):(w.setCell (b o WY) u).cell? (b j WY)=w.cell? (b j WY):=by
 simp only[Yx,Ye,Array.getElem?_modify];cases hq:w.heap[b]? with
 |none=>simp
 |some ob=>cases ob<;>simp[Array.getElem?_setIfInBounds,h]
def Y7(v m:Xb):Nat:=2*(match v with|YG _ n _=>n|_=>0)+(match m with|YH Xe=>1|_=>0)
def et7{p:PS}{l:List ar}(y:l≠[])(h:(PS.clsR (p.take 2 l)).comma.2=Xe):(l.filter λs=> !WZ (s=(p.take 2 l).2.text)).length<l.length:=by
 have j:(p.take 2 l).1.e=0:=au5 (p:=PS.clsR (p.take 2 l)) h;by_cases c:p.e≠0\/p.head.kind≠2\/(l≠[]/\p.head.text∉l)
 .rw[FF c]at j;exact absurd j (p.fail_e aF)
 .rw[Il c];have hm:p.head.text∈l:=by
   apply Classical.byContradiction;intro z;exact c (.inr (.inr ⟨y,z⟩))
  rcases Nat.lt_or_eq_of_le (List.length_filter_le (λs=> !WZ (s=p.head.text)) l)with h|h
  .exact h
  .have:=List.filter_eq_self.1 (List.filter_sublist.eq_of_length h) p.head.text hm;simp at this
def et8(pb B M:Nat)(p:PS)(w:Xa)(hM:M<=1000000)(h:bV w pb B M p):
 Xq Xn 222 #[aq pb] w (sD w pb B M p.classes):=by
 have HP:=ah h;have bd:=h.size;have Er:=λa b c d w=>Pz a b c d w;refine uC λlZ=>?_;obtain⟨tv,r,n,J,h2,h3,h4,h5,h6,h7⟩:=id h;have ks:=blk_lt J;have wD:=ah (show w.cell? (pb 4 WY)=WX r from ap J rfl);have BK:=ah (show w.cell? (pb 5 WY)=WX n from ap J rfl);have HR:=ah (λg hg=>show ¬g=w.heap.size from by have:=(Xs h3 g hg).2;omega);have cz1:=ah (λg hg=>show ¬g=w.heap.size from by have:=(Xs h4 g hg).2;omega);have mR:=λo=>(show fJ ((w.alloc o).alloc (.map #[] 0)) (w+1) (wm [])from by have h:=fJ.made (w.alloc o);rw[show(w.alloc o).heap.size=w.heap.size+1 from by simp]at h;exact h);have cu5:Hid (p.classes=p.classGo [ox,fH,fU]):=rfl;clear h J h2 h3 h4 h5 h6 h7;simp only[aq];go_enter func222,ntmps222
 go_wp2_with first
             |(refine CM _ rfl (YL 7) (YM (Xp ⟨#[109,97,99,104,105,110,101]⟩)) (YM (Xo XO 1)) 216 (.inr rfl) 9 3 .string underlying216 X0 (w+1) (wm []) rfl (mR _) (Xp (bs ox)) (Xo XO 1) rfl rfl zA (FH aF) ?_;intro w1 jw ep)
             |(refine CM _ rfl (YL 7) (YM (Xp ⟨#[114,97,99,107]⟩)) (YM (Xo XO 2)) 216 (.inr rfl) 9 3 .string underlying216 X0 (w+1) (wm [(ox,1)]) rfl jw (Xp (bs fH)) (Xo XO 2) rfl rfl zA (FH aF) ?_;intro w2 jx gO)
             |(refine CM _ rfl (YL 7) (YM (Xp ⟨#[102,101,101,100]⟩)) (YM (Xo XO 4)) 216 (.inr rfl) 9 3 .string underlying216 X0 (w+1) (wm [(ox,1),(fH,2)]) rfl jx (Xp (bs fU)) (Xo XO 4) rfl rfl zA (FH aF) ?_;intro w3 jy gP;have bx:=ah (gP.1 _ _ (gO.1 _ _ (ep.1 _ _ (ai (ai (aj w) _) _) YN) YN) YN);have qp:=ah (λi(hi:¬i=w.heap.size+1)=>(gP.2.2 i hi).trans ((gO.2.2 i hi).trans (ep.2.2 i hi)));have rd:=ah jy;clear jw ep jx gO jy gP)
 go_loopw [2,4] (λv m wr=>∃(left:List ar)(q:PS)(more:Bool),v=YG (WX (w 0 WY)) left.length 3/\m=YH more/\Sort.Holds tD wr w 0 left.toArray/\left.length<=3/\bV wr pb B M q/\aK B pb w wr/\fJ wr (w+1) (wm Io)/\wr.cell? (pb 4 WY)=WX r/\wr.cell? (pb 5 WY)=WX n/\p.classes=(if more then q.classGo left else q)) (λv m _=>Y7 v m)
 case atStart=>
  have lF:=bx.o.size;have hb:w3.heap[w.heap.size]?=WX (YI #[bs ox,bs fH,bs fU] 9 (0,0)):=(qp.o _ YN).trans (jO (cN w _) (ai (aj _) _) YQ);have qz:aK B pb w w3:=aK.of_below bx.o bd.2 lF;refine⟨[ox,fH,fU],p,Xe,rfl,rfl,λj hj=>?_,by decide,HP.o.later bx.o,qz,rd.o,(bx.o.cell (p:=pb 4 WY) ks).trans wD.o,(bx.o.cell (p:=pb 5 WY) ks).trans BK.o,cu5.o⟩;refine⟨ap hb ?_,cK hb _⟩
  match j,hj with
  |0,_=>rfl
  |1,_=>rfl
  |2,_=>rfl
  |j+3,hj=>exact absurd hj YQ
 case round=>
  obtain⟨left,q,more,rfl,rfl,hH,AW,jz,hK,Tf,jI,Kj,dR⟩:=hrel;have U:=ah dR;have cy6:=ah Tf;have BO:=ah hK;have Y:=ah jz;have HH:=ah hH;have UK:=jz.size;have gn9:=hK.size;have fN:=Tf.lt;clear dR Tf hK jz hH;cases more with
  |false=>
   go_wp2_with fail
   go_end0
   rw[U.o];exact⟨rfl,Y.o.more (Yi M),λ_=>Y.o.ok,BO.o⟩
  |true=>
   by_cases kO:left=[]
   .subst kO;have HF:=ah (LR pb B M q wr 3 Y.o (by omega));have D:Hid (p.classes=q.fail 3):=by show _=_;have h:=U.o;rw[if_pos rfl,PS.classGo,if_pos rfl]at h;exact h
    clear U;unfold aq at HF;go_wp2_with(go_at_call 50;refine HF.o.m ?_;rintro e A ⟨rfl,iz,F,sU⟩;have ml:=ah iz;have gH:=ah F;clear iz F sU)
    refine bodyPost_ret (v:= .tuple #[]) (by simp[results,results222,go_sem]) rfl ?_;rw[D.o];exact⟨rfl,ml.o.more (Yi M),λ_=>ml.o.ok,BO.o.trans (gH.o.mono UK.2)⟩
   .have hg2:((left.length:Int)==0)=false:=by
     have:=List.length_pos_iff.2 kO;simp;omega
    have HT:=ah (zz pb B M q wr 2 2 left (YG (WX (w 0 WY)) left.length 3) rfl Y.o aF (et4 HH.o YN AW YN));have uU:=ah (λhq=>et6 (l:=left) (p:=q) (M:=M) Y.o.ok hq);have I:=ah (λhc=>et7 (p:=q) kO hc);have D:Hid (p.classes=if(PS.clsR (q.take 2 left)).comma.2=Xe then PS.classGo (left.filter λs=> !WZ (s=(q.take 2 left).2.text)) (PS.clsR (q.take 2 left)).comma.1 else(PS.clsR (q.take 2 left)).comma.1):=by show _=_;have h:=U.o;rw[if_pos rfl,et5 kO]at h;exact h
    clear U;generalize q.take 2 left=qt at HT uU I D;obtain⟨q1,t⟩:=qt;dsimp only at uU I D;obtain⟨z,C⟩:∃z:PS,PS.clsR (q1,t)=z:=⟨_,rfl⟩;have da7:Hid (z={q1 with d:={q1.d with by_:=q1.d.by_+gI t.text}}):=C.symm;rw[C]at uU I D;have Q4:=ah (λW hW=>YY pb B M z W hW);generalize z.comma=cm at Q4 I D;obtain⟨q3,more⟩:=cm;dsimp only at I D;obtain⟨left2,du⟩:∃l2,(left.filter λs=> !WZ (s=t.text))=l2:=⟨_,rfl⟩;have hd9:left2.length<=left.length:=by rw[<-du];exact List.length_filter_le _ _
    have MZ:=ah (λW(hW:W.heap.size>w.heap.size+1)(J:Sort.Holds tD W w 0 left.toArray)bw(h2:W.cell? ⟨bw,0,WY⟩=WX (Xp (bs t.text)))(h3:bw<W.heap.size)(h4:¬bw=w.heap.size)=>et2 left t.text w 3 bw W J h2 h3 h4 AW YN);rw[du]at MZ I D;clear C du;unfold aq at HT Q4 MZ;unfold bq at MZ
    go_wp2_with first
                |(go_at_call 138;refine HT.o.mono ?_;unfold qT;rintro e A ⟨rfl,iz,F,sU⟩;have ml:=ah iz;have gH:=ah F;have Z:=ah sU;have KL:=F.size;have cw0:=ah (PB HH.o (F.block w YN YN));have ql:=ah (F.blk cy6.o fN YN);clear iz F sU;simp only[nM])
                |(go_at_call 285;refine(MZ.o _ bP (PB cw0.o (au8 _ _ YN)) A (ap (cN A _) rfl) YQ YN).m ?_;rintro e y ⟨rfl,cb6,G,EG,mM,UN,cn1⟩;have cw1:=ah cb6;clear cb6)
    have ca1:=ml.o.later (ai (aj A) (YI #[bs t.text] 9));have e4:(A.alloc (YI #[bs t.text] 9)).cell? (pb 4 WY)=WX r:=((j9.of_below (ai (aj A) _) YN) 4 aF).trans ((Z.o 4 aF).trans jI);have e5:(A.alloc (YI #[bs t.text] 9)).cell? (pb 5 WY)=WX n:=((j9.of_below (ai (aj A) _) YN) 5 aF).trans ((Z.o 5 aF).trans Kj);have mG:bV y pb B M q1:=ca1.del e4 e5 HR.o cz1.o ks G EG mM UN cn1;have bz4:y.cell? (pb 4 WY)=WX r:=(Yp (a:=pb 4 WY) (G pb YN)).trans e4;have bz5:y.cell? (pb 5 WY)=WX n:=(Yp (a:=pb 5 WY) (G pb YN)).trans e5;have oC:aK B pb w y:=(BO.o.trans (((gH.o.mono UK.2).alloc (bQ UK.2 (am _)) (YI #[bs t.text] 9)))).trans ⟨EG,mM,UN,by omega,λi hi _=>G i YN⟩;have GO:fJ y (w+1) (wm Io):=(G _ YN).trans ((au8 A _ YN).trans ql.o);have cw:y.cell? A=WX (Xp (bs t.text)):=(Yp (a:=A) (G A YN)).trans (ap (cN A _) rfl);obtain⟨Uu,N8,c1,c2,c3,c6,c7⟩:=mG.cells;have f6:=N8 6;have fE:=au2 (w:=y.drew) (l:=Io) aF GO t.text;rw[et3]at fE;have lA:=mG.ok.by_;have gn1:w.heap.size+1<y:=by rw[cn1];simp;omega
    have ig:=au7 t.text;have hl3:IntKind.i64.wrap ((q1.d.by_:Int)+(gI t.text:Nat))=(q1.d.by_:Int)+(gI t.text:Nat):=XK _ YN;have mp:=ah mG;have gJ:=ah oC;have yv:=ah GO;have sH:=ah bz4;have BM:=ah bz5;clear ca1 e4 e5 mG bz4 bz5 oC GO N8 G EG mM UN c1 c2 c3 c7 jI Kj Er lZ mR
    go_region
    have C:=da7.o;have KC:z.Ok M:=uU.o mp.o.ok;have hv:Xo .i64 ((q1.d.by_:Int)+(gI t.text:Nat))=Xo XO (z.d.by_:Nat):=by rw[C];simp
    rw[hv];have GP:bV (y.setCell (pb 6 WY) (Xo XO (z.d.by_:Nat))).drew pb B M z:=bV.later (mp.o.setD (by rw[C]) (by rw[C]) (by rw[C]) (λ_ _ _=>by rw[C];rfl) KC) (a_ (aj _));have O:aK B pb w (y.setCell (pb 6 WY) (Xo XO (z.d.by_:Nat))).drew:=(gJ.o.set (.inl rfl) _).drew;have qE:(y.setCell (pb 6 WY) (Xo XO (z.d.by_:Nat))).drew.cell? (pb 4 WY)=WX r:=(au9 y aF).trans sH.o;have mP:(y.setCell (pb 6 WY) (Xo XO (z.d.by_:Nat))).drew.cell? (pb 5 WY)=WX n:=(au9 y aF).trans BM.o;have Bb:(y.setCell (pb 6 WY) (Xo XO (z.d.by_:Nat))).drew.heap.size=y.heap.size:=by simp[Ye]
    have X:fJ (y.setCell (pb 6 WY) (Xo XO (z.d.by_:Nat))).drew (w+1) (wm Io):=(uz yv.o YN);have V:Sort.Holds tD (y.setCell (pb 6 WY) (Xo XO (z.d.by_:Nat))).drew w 0 left2.toArray:=PB cw1.o (Below.heap_setCell y (pb 6 WY) _ w bP);generalize (y.setCell (pb 6 WY) (Xo XO (z.d.by_:Nat))).drew=w6 at GP O qE mP Bb X V⊢
    have hj5:w.heap.size+1<w6:=by rw[Bb];exact gn1
    have q_:=ah (Q4.o w6 GP);have ct3:=ah (Xi O (Xi qE (Xi mP (Xi X V))));have gn2:=GP.size;clear GP O qE mP X V C KC hv cw c6 f6 fE;go_wp2_with(go_at_call 284;refine q_.o.mono ?_;unfold Im;rintro e w7 ⟨rfl,GQ,vJ,NP⟩;have Jm:=ah GQ;have mQ:=ah vJ;have F7:=ah NP;clear GQ vJ NP)
    obtain⟨O,qE,mP,X,V⟩:=ct3.o;refine⟨⟨left2,q3,more,rfl,rfl,PB V (mQ.o.block _ YN YN),by omega,Jm.o,O.trans (mQ.o.mono gn2.2),mQ.o.blk X YN YN,(F7.o 4 aF).trans qE,(F7.o 5 aF).trans mP,D.o⟩,?_⟩;have az:=I.o;cases more with
    |true=>have:=az rfl;simp[Y7];omega
    |false=>simp[Y7];omega
end
section
open Go Go.RowKit Go.Sort Go.Proofs.Tryz
def be2(W:Xa)(os:Array Obj):Below W W (Go.Sort.grow W os):=⟨rfl,rfl,rfl,by simp,λk c=>Go.Sort.heap_grow_old _ _ c⟩
def W_:Fence:={fn:=λ_=>True}
def be3(k:Nat):W_.room k:=λd c=>by cases c
def ew3(h:Nat)(j:Xb)(c:List ByteArray)(z:c.length<=1000000)(w:Xa)(D:h<w)
 (A:w.cell? h=WX j)(C:Sl w w j (c.map (Xp))):
 Xq Xn 311 #[YG WY 0 0,.func (.func 234) #[] #[YK (WX h)]] w λe y=>∃v,e=Ya v/\y.ownsRow w 9 1 v c.length (c.map (Xp))/\Below w w y:=
 (ew1 W_ 3 trivial trivial rfl (am _) h j c z w D A C).calls be3
def ew4(j:Nat)(y:Xb)(c:List ByteArray)(G:c.length<=1000000)(w:Xa)(D:j<w)
 (A:w.cell? j=WX y)(C:Sl w w y (c.map (Xp))):
 Xq Xn 232 #[.func (.func 234) #[] #[YK (WX j)]] w λe z=>∃v,e=Ya v/\z.ownsRow w 9 1 v c.length (c.map (Xp))/\Below w w z:=by
 have F:=ah (ew3 j y c G w D A C);clear C A D;go_enter func232,ntmps232;go_wp2_with(go_at_call 311;refine F.o.m ?_;rintro e J ⟨v,rfl,ho,I⟩)
 go_ret;exact⟨v,rfl,ho,I⟩
def ew5(D:Nat)(O:Xb)(j:List ByteArray)(cr:j.length<=1000000)(w:Xa)(Z:D<w)
 (X:w.cell? D=WX O)(Y:Sl w w O (j.map (Xp))):
 Xq Xn 156 #[.func (.func 234) #[] #[YK (WX D)]] w λe V=>∃v,e=Ya v/\V.ownsRow w 9 1 v j.length (((j.map (·.data.toList)).mergeSort λx y=>WZ (x<=y)).map Go.Proofs.encStr)/\Below w w V:=by
 have F:=ah (ew4 D O j cr w Z X Y);clear Y X Z;by_cases J:j.length=0
 .have hz:j=[]:=List.length_eq_zero_iff.1 J;subst hz
  have A:=ah (fun(p:Option Yy)c W=>slices_Sort_string_none p c W);go_enter func156,ntmps156;go_wp2_with first
   |(go_at_call 232;refine F.o.m ?_;rintro e w2 ⟨v,rfl,ho,z⟩;obtain⟨p,c,rfl⟩:∃p c,v= .slice p 0 c:=by
      rcases ho.2 with⟨C,_⟩|⟨g,cap,I,C,_⟩
      .exact⟨WY,0,C⟩
      .exact⟨_,_,C⟩
     have HO:=ah ho;have HB:=ah z;clear ho z)
   |(go_at_call 233;refine(A.o _ _ _).m ?_;rintro e w3 ⟨rfl,rfl⟩)
  go_ret;refine⟨_,rfl,?_,HB.o⟩;have e:((([]:List ByteArray).map (·.data.toList)).mergeSort λx y=>WZ (x<=y))=[]:=YQ;rw[e];exact HO.o
 .have A:=ah (λb c W(G:Go.Sort.Holds Go.Proofs.encStr W b 0 (j.map (·.data.toList)).toArray)(z:b<W.heap.size)=>slices_Sort_string b 0 c (j.map (·.data.toList)) W G z (by first|omega|(simp;omega)));have HL:=ah (show((j.map (·.data.toList)).mergeSort λx y=>decide (x<=y)).length=j.length by simp)
  generalize ((j.map (·.data.toList)).mergeSort λx y=>WZ (x<=y))=ss at A HL;have HZ:=ah (show j.map (Xp)=(j.map (·.data.toList)).map Go.Proofs.encStr from(Go.Lib.map_encStr j:_).symm);rw[HZ.o]at F;have U:=ah (show(j.map (·.data.toList)).length=j.length by simp);rw[U.o]at A;generalize j.length=n at F A HL U J;go_enter func156,ntmps156;go_wp2_with first
   |(go_at_call 232;refine F.o.m ?_;rintro e w2 ⟨v,rfl,ho,z⟩;obtain⟨g,cap,rfl,eU,jB,fW,G3,ch8,G⟩:=Go.Lib.holds_of_ownsRow ho (by
      intro e;have:=ho.2;rw[e]at this;rcases this with⟨_,h1⟩|⟨g,cap,I,C,_⟩
      .exact J h1
      .cases C)
     have HO:=ah ho;have HB:=ah z;have HH:=ah G;clear ho z G)
   |(go_at_call 233;refine(A.o _ _ _ HH.o jB).m ?_;rintro e w3 ⟨rfl,q,os,rfl⟩)
  exact be4
def ew6(h:Nat)(j:Xb)(c:List Int)(z:c.length<=1000000)(w:Xa)(D:h<w)
 (A:w.cell? h=WX j)(C:Sl w w j (c.map (Xo .i64))):
 Xq Xn 314 #[YG WY 0 0,.func (.func 237) #[] #[YK (WX h)]] w λe y=>∃v,e=Ya v/\y.ownsRow w 3 1 v c.length (c.map (Xo .i64))/\Below w w y:=
 (ew2 W_ 3 trivial trivial rfl (am _) h j c z w D A C).calls be3
def ew7(j:Nat)(y:Xb)(c:List Int)(G:c.length<=1000000)(w:Xa)(D:j<w)
 (A:w.cell? j=WX y)(C:Sl w w y (c.map (Xo .i64))):
 Xq Xn 235 #[.func (.func 237) #[] #[YK (WX j)]] w λe z=>∃v,e=Ya v/\z.ownsRow w 3 1 v c.length (c.map (Xo .i64))/\Below w w z:=by
 have F:=ah (ew6 j y c G w D A C);clear C A D;go_enter func235,ntmps235;go_wp2_with(go_at_call 314;refine F.o.m ?_;rintro e J ⟨v,rfl,ho,I⟩)
 go_ret;exact⟨v,rfl,ho,I⟩
def be5(D:Nat)(O:Xb)(j:List Int)(cr:j.length<=1000000)(w:Xa)(Z:D<w)
 (X:w.cell? D=WX O)(Y:Sl w w O (j.map (Xo .i64))):
 Xq Xn 159 #[.func (.func 237) #[] #[YK (WX D)]] w λe V=>∃v,e=Ya v/\V.ownsRow w 3 1 v j.length ((j.mergeSort λx y=>WZ (x<=y)).map (Xo .i64))/\Below w w V:=by
 have F:=ah (ew7 D O j cr w Z X Y);clear Y X Z;by_cases J:j.length=0
 .have hz:j=[]:=List.length_eq_zero_iff.1 J;subst hz
  have A:=ah (fun(p:Option Yy)c W=>slices_Sort_int_none p c W);go_enter func159,ntmps159;go_wp2_with first
   |(go_at_call 235;refine F.o.m ?_;rintro e w2 ⟨v,rfl,ho,z⟩;obtain⟨p,c,rfl⟩:∃p c,v= .slice p 0 c:=by
      rcases ho.2 with⟨C,_⟩|⟨g,cap,I,C,_⟩
      .exact⟨WY,0,C⟩
      .exact⟨_,_,C⟩
     have HO:=ah ho;have HB:=ah z;clear ho z)
   |(go_at_call 236;refine(A.o _ _ _).m ?_;rintro e w3 ⟨rfl,rfl⟩)
  go_ret;refine⟨_,rfl,?_,HB.o⟩;have e:(([]:List Int).mergeSort λx y=>WZ (x<=y))=[]:=YQ;rw[e];exact HO.o
 .have A:=ah (λb c W(G:Go.Sort.Holds (Value.int .i64) W b 0 j.toArray)(z:b<W.heap.size)=>slices_Sort_int b 0 c j W G z (by first|omega|(simp;omega)));have HL:=ah (show(j.mergeSort λx y=>decide (x<=y)).length=j.length by simp)
  generalize (j.mergeSort λx y=>WZ (x<=y))=ss at A HL;have HZ:=ah (show j.map (Xo .i64)=j.map (Xo .i64)from(rfl:_).symm);rw[HZ.o]at F;have U:=ah (show j.length=j.length by simp);rw[U.o]at A;generalize j.length=n at F A HL U J;go_enter func159,ntmps159;go_wp2_with first
   |(go_at_call 235;refine F.o.m ?_;rintro e w2 ⟨v,rfl,ho,z⟩;obtain⟨g,cap,rfl,eU,jB,fW,G3,ch8,G⟩:=Go.Lib.holds_of_ownsRow ho (by
      intro e;have:=ho.2;rw[e]at this;rcases this with⟨_,h1⟩|⟨g,cap,I,C,_⟩
      .exact J h1
      .cases C)
     have HO:=ah ho;have HB:=ah z;have HH:=ah G;clear ho z G)
   |(go_at_call 236;refine(A.o _ _ _ HH.o jB).m ?_;rintro e w3 ⟨rfl,q,os,rfl⟩)
  exact be4
end
end Go.Proofs.YtpfienbhhhgpkaaGreatDoor
