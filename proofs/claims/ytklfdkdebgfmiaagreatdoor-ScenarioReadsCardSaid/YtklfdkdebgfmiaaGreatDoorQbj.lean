/- A part of the proof. -/
import Derived.Test.YtklfdkdebgfmiaaGreatDoorQbh
set_option linter.defProp false
set_option linter.unusedVariables false
set_option linter.unusedSimpArgs false
set_option maxRecDepth 100000
set_option maxHeartbeats 32000000
open Option renaming none->Wr,some->Ws
open Decidable renaming decide->Wt
open Go renaming World->Wu,Value->Wv,Calls->WJ,TypeId->WQ,Ending->X0
open Bool renaming false->Ww,true->Wz
open Go.RowKit renaming Hid->WA
open Go.Lib renaming countB->XM
open Go.Proofs.Tryz renaming prog->WH
open Go.Value renaming int->WK,string->WM,slice->Yb,bool->Yc,agg->Ye
open Go.Instr renaming lookup->WT
open Go.World renaming setCell->XD
open Go.IntKind renaming i64->Xr
open Go.Ending renaming returned->Xz
open Go.Obj renaming cells->Yd
open Go.Operand renaming tmp->Yg,const->Yh
namespace Go.Proofs.YtklfdkdebgfmiaaGreatDoor
section
open Go Go.RowKit Go.MapKept Go.ChangeMaps Go.Proofs.Tryz
def Mw (w:Wu) (l:List ByteArray) (e:X0) (w':Wu):Prop:=
 Below w w w'/\match km l with
  |some y=> ∃m s,e=Xz (.tuple #[Ye (y.cells m s),WK Xr 0])/\y.In w' w' m s/\j8 w.heap.size m/\j8 w.heap.size s
  |none=>e=Xz (.tuple #[Ye ((cj 0).cells aN aN),WK Xr 3])
def P7 (b:Nat->Nat):List (Wv×Wv):=(items b).map kO.kv
def YN (b:Nat->Nat): ∀p∈P7 b,IsKey .string p.1:=by intro p c;obtain⟨x,_,rfl⟩:=List.mem_map.1 c;exact uY
def YO (b:Nat->Nat) {j:Nat} {x:kO} (g:(items b)[j]? =Ws x): ∃k,yC[j]? =Ws k/\x.word=dV k:=by
 have c:((items b).map (·.word))[j]? =Ws x.word:=by rw[WN,g];rfl
 rw[ao7,WN] at c;obtain⟨k,hk,e⟩:=Option.map_eq_some_iff.1 c;exact⟨k,hk,e.symm⟩
def an1: ∀k∈yC,k<18:=az
def an2 (b:Nat->Nat) {s:ByteArray} (h:qi s=Wr): ∀p∈P7 b,IsKey .string p.1/\p.1≠ .string s:=by
 intro p g;refine⟨YN b p g,λe=> ?_⟩;obtain⟨x,hx,rfl⟩:=List.mem_map.1 g;obtain⟨j,hj⟩:=List.mem_iff_getElem?.1 hx;obtain⟨k,hk,hw⟩:=YO b hj;have c:bs x.word=s:=by injection e
 rw[hw] at c;have:=Qs k (an1 k (eD hk));rw[c,h] at this;cases this
def em6 (b:Nat->Nat) {s:ByteArray} {k:Nat} (h:qi s=Ws k):
 ∃(j:Nat) (x:kO),(items b)[j]? =Ws x/\yC[j]? =Ws k/\(∀p∈P7 b,p.1=WM s->p.2=x.val)/\∃p∈P7 b,p.1=WM s:=by
 obtain⟨cc8,hs⟩:=Yj h;obtain⟨j,hj⟩:=List.mem_iff_getElem?.1 (ap6 k cc8);have C:j<18:=(List.getElem?_eq_some_iff.1 hj).1;obtain⟨x,hx⟩: ∃x,(items b)[j]? =Ws x:=⟨_,Wy (by rw[P5];exact C)⟩;obtain⟨k',g,hw⟩:=YO b hx;rw[hj] at g;injection g with g;subst g;refine⟨j,x,hx,hj,λp D e=> ?_,⟨x.kv,List.mem_map.2 ⟨x,eD hx,rfl⟩,by show WM (bs x.word)=_;rw[hw,hs]⟩⟩;obtain⟨y,hy,rfl⟩:=List.mem_map.1 D;obtain⟨i,c⟩:=List.mem_iff_getElem?.1 hy;obtain⟨k2,gM,oK⟩:=YO b c;have A:bs y.word=s:=by injection e
 rw[oK] at A;have:=Qs k2 (an1 k2 (eD gM));rw[A,h] at this;injection this with this;subst this;have z:j=i:=(List.getElem?_inj (List.getElem?_eq_some_iff.1 hj).1 (by decide:yC.Nodup)).1 (hj.trans gM.symm);subst z;rw[hx] at c;injection c with c;subst c;rfl
def an3 (w:Wu):(zeroValue 84).run WH w= .ok (Ye #[WM ⟨#[]⟩,WK Xr 0,.nilFunc,.nilFunc,.nilFunc,.nilFunc]) w:=aC
def an4 (s:ByteArray) (D:s.size<=100000):(cW s).length<=100001/\∀x∈cW s,x.size<=100000:=by
 refine⟨?_,λx hx=> ?_⟩
 .unfold cW;have g:=Lib.splitB_length_le (bs [32]) 0 (XM s (bs [32])) s;have j:=Lib.countB_le (bs [32]) az s.size s (ag _);omega
 .obtain⟨w,r,g,j⟩:=I4 s;rw[g] at hx;have z:s.size=(Lib.join ((w::r).map (·.data.toList)) [32]).length:=by rw[<-kJ,j]
  rw[WO,Lib.join_length] at z;have A:x.data.toList.length<=Lib.lens (w.data.toList::r.map (·.data.toList)):=by
   have: ∀l:List (List UInt8),∀y∈l,y.length<=Lib.lens l:=by
    intro l;induction l with
    |nil=>intro y c;cases c
    |cons a t ih=>
     intro y c;have e:Lib.lens (a::t)=a.length+Lib.lens t:=by simp[Lib.lens]
     rcases List.mem_cons.1 c with rfl|c
     .omega
     .have:=ih y c;omega
   exact this _ _ (by
    rcases List.mem_cons.1 hx with rfl|hx
    .simp
    .exact List.mem_cons_of_mem _ (List.mem_map.2 ⟨x,hx,rfl⟩))
  have C:x.data.toList.length=x.size:=Oj;omega
def P8 {w:Wu} {r:Nat} {c g j y z A C D F G:Wv} {t:WQ} (h:w.heap[r]? =Ws (Yd #[c,g,j,y,z,A,C,D,F,G] t (0,0))):
 (w.cell? r=Ws c/\w.cell? (r 1 Wr)=Ws g/\w.cell? (r 2 Wr)=Ws j/\w.cell? (r 3 Wr)=Ws y/\w.cell? (r 4 Wr)=Ws z/\w.cell? (r 5 Wr)=Ws A/\w.cell? (r 6 Wr)=Ws C/\w.cell? (r 7 Wr)=Ws D/\w.cell? (r 8 Wr)=Ws F/\w.cell? (r 9 Wr)=Ws G)/\
 ∀o,w.frozen? (r o Wr)=false:=by
 refine⟨⟨?_,?_,?_,?_,?_,?_,?_,?_,?_,?_⟩,λo=>nH h o⟩<;>exact kl h tj
def em7 {s:ByteArray} (h:qi (aJ (cW s) 0)=Wr):km (cW s)=none:=by
 obtain⟨w,r,h1,_⟩:=I4 s;rw[h1] at h⊢
 have c:qi w=none:=h;simp[km,c]
def YP {s:ByteArray} {k:Nat} (h:qi (aJ (cW s) 0)=Ws k):km (cW s)=(iB k ((cW s).drop 1)).bind λy=>if fE y then Ws y else none:=by
 obtain⟨w,r,h1,_⟩:=I4 s;rw[h1] at h⊢
 have c:qi w=Ws k:=h;simp[km,c]
def an5 {k:Nat} {l:List ByteArray} {y:aP} (h:iB k l=Ws y):y.ms.length<=l.length/\y.ss.length<=l.length:=by
 have c: ∀(k:Int) (j:Nat),mz k j l=Ws y->y.ms.length<=l.length/\y.ss.length<=l.length:=λk j h=>by obtain⟨vs,_,rfl⟩:=Option.map_eq_some_iff.1 h;simp[cj]
 unfold iB at h;split at h
 .unfold Dk at h;split at h
  .injection h with h;subst h;simp[cj]
  .cases h
 split at h
 .unfold qT at h;split at h
  .cases h
  .obtain⟨vs,hv,h⟩:=Option.bind_eq_some_iff.1 h;obtain⟨a,ha,rfl⟩:=Option.map_eq_some_iff.1 h;have:=De hv;rw[Xc] at this;exact⟨by simp[cj],by show vs.length<=_;omega⟩
 split at h
 .exact c _ _ h
 split at h
 .unfold qV at h;split at h
  .cases h
  .obtain⟨q,hq,h⟩:=Option.bind_eq_some_iff.1 h;obtain⟨vs,hv,rfl⟩:=Option.map_eq_some_iff.1 h;simp[cj]
 split at h
 .unfold tQ at h;split at h
  .obtain⟨vs,hv,h⟩:=Option.bind_eq_some_iff.1 h;obtain⟨u,hu,rfl⟩:=Option.map_eq_some_iff.1 h;simp[cj]
  .cases h
 split at h
 .exact c _ _ h
 split at h
 .obtain⟨vs,hv,rfl⟩:=Option.map_eq_some_iff.1 h;have:=De hv;exact⟨by show vs.length<=_;omega,by simp[cj]⟩
 .exact c _ _ h
def em8 {k:Nat} {l:List ByteArray} {y:aP} (h:iB k l=Ws y) (z:k<18) (g: ∀x∈l,x.size<=100000) {w:Wu} {B:Nat} {m s:Wv} (hm:aW w B m y.ms) (j:aW w B s y.ss):y.In w B m s:=by
 obtain⟨h1,_,hN,bN,c⟩:=Yk h;refine⟨?_,hN.a,hN.b,hN.c,bN,?_,hN.val,hN.old,hm,j⟩
 .rw[h1];exact⟨by omega,by omega⟩
 .rcases c with c|c
  .rw[c];exact bU _
  .have:=g _ c;omega
def em9 (wc:Wu) (k:Nat) (c:Int) (g:c=k):eY (wc.alloc (Yd #[c,WK Xr 0,WK Xr 0,WK Xr 0,WK Xr 0,WM ⟨#[]⟩,WK Xr 0,WK Xr 0,Yb Wr 0 0,Yb Wr 0 0] 46)) wc.heap.size (cj k) aN aN:=by unfold eY;rw[nJ,<-g];exact Xn wc _
def Sl.set {w:Wu} {B r:Nat} {v:Wv} {xs:List Wv} (h:Sl w B v xs) (g: ∀a n c,v=Yb (Ws a) n c->¬a.block=r) (o:Nat) (u:Wv):Sl (w.setCell (r o Wr) u) B v xs:=by obtain⟨A,c,rfl,h1,h2,h3⟩:=h;refine⟨A,c,rfl,h1,h2,λy=> ?_⟩;obtain⟨b,o',rfl,hb,hc⟩:=h3 y;exact⟨b,o',rfl,hb,λj C z=>(W_ (g _ _ _ rfl)).trans (hc j C z)⟩
def In.set {y:aP} {w:Wu} {r:Nat} {m s:Wv} (h:y.In w w m s) (hm: ∀a n c,m=Yb (Ws a) n c->¬a.block=r) (g: ∀a n c,s=Yb (Ws a) n c->¬a.block=r) (o:Nat) (u:Wv):y.In (w.setCell (r o Wr) u) (w.setCell (r o Wr) u).heap.size m s:=by
 have e:(w.setCell (r o Wr) u).heap.size=w.heap.size:=by simp[XD]
 rw[e];exact⟨h.kind,h.a,h.b,h.c,h.ok,h.key,h.val,h.old,⟨Sl.set h.ms.1 hm o u,h.ms.2⟩,⟨Sl.set h.ss.1 g o u,h.ss.2⟩⟩
def en0 {s:ByteArray} {k:Nat} (h:qi s=Ws k):k<18:=(Yj h).1
def YQ (w1:Wu) (k:Nat) (p:Wv) (wx:Wu):Prop:=
 ∃(pb:Nat) (x:kO),p=aj pb/\w1.heap.size<=pb/\j9 wx k x/\Below w1 w1 wx/\wx.heap[pb]? =Ws (Yd #[bs x.word,x.kind,bm x.gu #[],bm x.gf x.caps,bm x.gr #[],bm x.gt #[]] 84 (0,0))
def en1 (s:ByteArray) (w:Wu) (hG:cH w) (hs:s.size<=100000) (hk:qi (aJ (cW s) 0)=Wr):
 WJ WH 10 #[s] w (Mw w (cW s)):=by
 have SP:=λW (h:cH W)=>PX s W h Yi;simp only[show Lib.splitB (bs [32]) 0 (XM s (bs [32])) s=cW s from rfl] at SP;refine P9 λAP HP HG yX HK=> ?_;clear hk;clear SP hG;go_enter func10,ntmps10;go_upto_region 2 with (go_at_call 13;refine(AP.out _ (HG.out.step (ae (af w) _))).m ?_;rintro e w1 ⟨v,rfl,hv,U,ap⟩)
 obtain⟨A,n,c,rfl,hn,wz,iG⟩:=hv.form;have I:1<=n:=Yi;obtain⟨bl,ol,rfl,ir,bk⟩:=hv.at_ 0 I;have uR:=bk 0 I;rw[WR] at uR;refine P_ λi0 n0 i1 i2 i3 n2 HV HN HR ba bf=> ?_;clear hv hn bk ap U;go_cut [5,6] (λ_ q wx=>q=Yc Ww/\Below w1 w1 wx)
 case first=>
  rename_i J K' F D;have O:=aa F;have rN:=aa D;clear F D;go_region_held3 (λw'=>w'.cell? (bl ol Wr)=Ws (WM (aJ (cW s) 0))) (go_simp)
   (first
     |(go_at_call 33;refine(HP.out _).m ?_;rintro e g ⟨M,b,rfl,z,G,wu,Y,y⟩;have j:Below w1 w1 g:=by first|exact ai (aX (af w1)) y|exact ai (aX (ae (af w1) _)) y
       have kU:(WT 86 (.map (Ws M)) (WM (aJ (cW s) 0)) Wz).run WH g= .ok (.tuple #[Ye #[WM ⟨#[]⟩,WK Xr 0,.nilFunc,.nilFunc,.nilFunc,.nilFunc],Yc Ww]) g:=L9 underlying86 Xw z Wz uY (an2 b HK.out) (an3 _);have gM: ∀o,(WT 86 (.map (Ws M)) (WM (aJ (cW s) 0)) Wz).run WH (g.alloc o)= .ok (.tuple #[Ye #[WM ⟨#[]⟩,WK Xr 0,.nilFunc,.nilFunc,.nilFunc,.nilFunc],Yc Ww]) (g.alloc o):=λo=>L9 underlying86 Xw (z.later (ae (af g) o)) Wz uY (an2 b HK.out) (an3 _);have cR: ∀b o,b<w1.heap.size->g.cell? ⟨b,o,Wr⟩=w1.cell? ⟨b,o,Wr⟩:=λb o h=>j.cell (p:=⟨b,o,Wr⟩) h;obtain⟨lJ,wv⟩:=Ih y;try(have gF:w1.heap.size<g.heap.size:=by(have hq:=y.size;simp at hq;omega))
       have V:bl<g.heap.size:=bq ir j.size;have X: ¬bl=g.heap.size:=Yi;have bd:w.heap.size<g.heap.size:=bq ba j.size;have HL:=aa z;have HX:=aa G;clear z G wu Y y))
  all_goals (dsimp only[Exit.then];refine rN.out _ _ (Met.intro (O.out _ _ ?_));(repeat apply Exists.intro);refine⟨⟨rfl,?_⟩,rfl⟩;first|with_reducible exact ae j _|(repeat' first|with_reducible exact j|with_reducible refine cF ?_ (ag _) _))
 case rest=>
  obtain⟨rfl,j⟩:=hcut;have C:=(j.block w.heap.size ba).trans HR.out;rw[nJ] at C;obtain⟨⟨d0,d1,d2,d3,d4,d5,d6,d7,d8,d9⟩,fr⟩:=P8 C;refine P' λf0 f1 f2 f3 f4 f5 f6 f7 f8 f9=> ?_;clear C fr;go_wp2_with fail
  refine YR ?_;refine⟨?_,?_⟩
  .have Z:=bf.out.trans (j.mono bf.out.size);repeat' first|with_reducible exact Z|with_reducible refine cF ?_ (ag _) _
  .rw[em7 HK.out]
def en2 (s:ByteArray) (w:Wu) (hG:cH w) (hs:s.size<=100000) (k:Nat) (hk:qi (aJ (cW s) 0)=Ws k) (C:iB k ((cW s).drop 1)=Wr):
 WJ WH 10 #[s] w (Mw w (cW s)):=by
 have SP:=λW (h:cH W)=>PX s W h Yi;simp only[show Lib.splitB (bs [32]) 0 (XM s (bs [32])) s=cW s from rfl] at SP;refine P9 λAP HP HG yX HK=> ?_;have zc:=aa C;clear C;clear hk;clear SP hG;go_enter func10,ntmps10;go_upto_region 2 with (go_at_call 13;refine(AP.out _ (HG.out.step (ae (af w) _))).m ?_;rintro e w1 ⟨v,rfl,hv,I,ap⟩)
 obtain⟨A,n,c,rfl,hn,wz,iG⟩:=hv.form;have D:1<=n:=Yi;obtain⟨bl,ol,rfl,ir,bk⟩:=hv.at_ 0 D;have O:=bk 0 D;rw[WR] at O;refine P_ λi0 n0 i1 i2 i3 n2 HV HN HR ba bf=> ?_;clear hv hn bk ap I;go_cut [5,6] (λp q U=>q=Yc Wz/\YQ w1 k p U)
 case first=>exact YS
 case rest=>
  obtain⟨rfl,pb,⟨word,kind,gu,gf,caps,gr,gt⟩,rfl,q_,hF,aV,wk⟩:=hcut;have X:=aa wk;obtain⟨⟨p0,p1,p2,p3,p4,p5⟩,_⟩:=Mv wk;have uH:kind=k:=hF.kind;have er:=hF.er;unfold dp at er;simp only at er;refine YT λjz ug gX bd aR vN=> ?_;simp only[bm] at p4;clear hF aV wk uH p0 p2 p3 p5;simp only[aj];go_wp2_with fail
  refine YU ?_;intro W ⟨aU,hU,Y,V⟩;refine YV λaT iW Gn h8 qc GH Ch=> ?_;clear aU hU p1 p4;have G: ∀y∈(cW s).drop 1,y.size<=1000000:=λy h=>by have:=yX.out.2 y (XV h);omega
  have F:((cW s).drop 1).length<=100000:=TK;have DN:=aa G;have vB:=aa F;clear G F;by_cases z: ¬c=1
  .have g:cD W.drew wc.heap.size (.slice (some ⟨bl,ol+1,none⟩) (n - 1) (c - 1)) ((cW s).drop 1):=
    cD.below (((HV.out.drop 1 Yi).below aR.out (ag _)).more aR.out.size) (aX aT.out) (ag _)
   have D4:=aa g;clear g;refine pD 11 ?_;refine lW 0 24 ?_;iterate 2 refine ja 12 24 ?_
   refine fi 1 λK hK=> ?_;go_simp;refine hK _ _ ?_;clear hK K;refine aG ?_;refine fi 4 λK hK=> ?_;go_simp;refine YW ?_;exact aw1
  .obtain rfl:c=1:=Classical.not_not.1 z;obtain rfl:n=1:=by omega
   have hd:(cW s).drop 1=[]:=TR;have g:cD W.drew wc.heap.size (Yb (Ws (bl ol Wr)) 0 0) ((cW s).drop 1):=Kh;have D4:=aa g;clear g z hd;refine pD 11 ?_;refine lW 0 24 ?_;iterate 2 refine ja 12 24 ?_
   refine fi 1 λK hK=> ?_;go_simp;refine hK _ _ ?_;clear hK K;refine aG ?_;refine fi 4 λK hK=> ?_;go_simp;refine YX ?_;exact aw1
def en3 (s:ByteArray) (w:Wu) (hG:cH w) (hs:s.size<=100000) (k:Nat) (hk:qi (aJ (cW s) 0)=Ws k) (y:aP) (D:iB k ((cW s).drop 1)=Ws y) (hv:fE y=Ww):
 WJ WH 10 #[s] w (Mw w (cW s)):=by
 have SP:=λW (h:cH W)=>PX s W h Yi;simp only[show Lib.splitB (bs [32]) 0 (XM s (bs [32])) s=cW s from rfl] at SP;refine P9 λAP HP HG yX HK=> ?_;have zc:=aa D;have J8:=aa hv;clear D hv;clear hk;clear SP hG;go_enter func10,ntmps10;go_upto_region 2 with (go_at_call 13;refine(AP.out _ (HG.out.step (ae (af w) _))).m ?_;rintro e w1 ⟨v,rfl,hv,O,ap⟩)
 obtain⟨A,n,c,rfl,hn,wz,iG⟩:=hv.form;have F:1<=n:=Yi;obtain⟨bl,ol,rfl,ir,bk⟩:=hv.at_ 0 F;have U:=bk 0 F;rw[WR] at U;refine P_ λi0 n0 i1 i2 i3 n2 HV HN HR ba bf=> ?_;clear hv hn bk ap O;go_cut [5,6] (λp q V=>q=Yc Wz/\YQ w1 k p V)
 case first=>exact YS
 case rest=>
  obtain⟨rfl,pb,⟨word,kind,gu,gf,caps,gr,gt⟩,rfl,q_,hF,aV,wk⟩:=hcut;have X:=aa wk;obtain⟨⟨p0,p1,p2,p3,p4,p5⟩,_⟩:=Mv wk;have uH:kind=k:=hF.kind;have er:=hF.er;unfold dp at er;simp only at er;refine YT λjz ug gX bd aR vN=> ?_;simp only[bm] at p4;clear hF aV wk uH p0 p2 p3 p5;simp only[aj];go_wp2_with fail
  refine YU ?_;intro W ⟨aU,hU,Y,CR⟩;refine YV λaT iW Gn h8 qc GH Ch=> ?_;clear aU hU p1 p4;have I: ∀z∈(cW s).drop 1,z.size<=1000000:=λz h=>by have:=yX.out.2 z (XV h);omega
  have G:((cW s).drop 1).length<=100000:=TK;have DN:=aa I;have vB:=aa G;clear I G;by_cases C: ¬c=1
  .have g:cD W.drew wc.heap.size (.slice (some ⟨bl,ol+1,none⟩) (n - 1) (c - 1)) ((cW s).drop 1):=
    cD.below (((HV.out.drop 1 Yi).below aR.out (ag _)).more aR.out.size) (aX aT.out) (ag _)
   have D4:=aa g;clear g;refine pD 11 ?_;refine lW 0 24 ?_;iterate 2 refine ja 12 24 ?_
   refine fi 1 λK hK=> ?_;go_simp;refine hK _ _ ?_;clear hK K;refine aG ?_;refine fi 4 λK hK=> ?_;go_simp;refine YW ?_;exact aw2
  .obtain rfl:c=1:=Classical.not_not.1 C;obtain rfl:n=1:=by omega
   have hd:(cW s).drop 1=[]:=TR;have g:cD W.drew wc.heap.size (Yb (Ws (bl ol Wr)) 0 0) ((cW s).drop 1):=Kh;have D4:=aa g;clear g C hd;refine pD 11 ?_;refine lW 0 24 ?_;iterate 2 refine ja 12 24 ?_
   refine fi 1 λK hK=> ?_;go_simp;refine hK _ _ ?_;clear hK K;refine aG ?_;refine fi 4 λK hK=> ?_;go_simp;refine YX ?_;exact aw2
def en4 (s:ByteArray) (w:Wu) (hG:cH w) (hs:s.size<=100000) (k:Nat) (hk:qi (aJ (cW s) 0)=Ws k) (y:aP) (D:iB k ((cW s).drop 1)=Ws y) (hv:fE y=Wz):
 WJ WH 10 #[s] w (Mw w (cW s)):=by
 have SP:=λW (h:cH W)=>PX s W h Yi;simp only[show Lib.splitB (bs [32]) 0 (XM s (bs [32])) s=cW s from rfl] at SP;refine P9 λAP HP HG yX HK=> ?_;have zc:=aa D;have J8:=aa hv;clear D hv;clear hk;clear SP hG;go_enter func10,ntmps10;go_upto_region 2 with (go_at_call 13;refine(AP.out _ (HG.out.step (ae (af w) _))).m ?_;rintro e w1 ⟨v,rfl,hv,O,ap⟩)
 obtain⟨A,n,c,rfl,hn,wz,iG⟩:=hv.form;have F:1<=n:=Yi;obtain⟨bl,ol,rfl,ir,bk⟩:=hv.at_ 0 F;have U:=bk 0 F;rw[WR] at U;refine P_ λi0 n0 i1 i2 i3 n2 HV HN HR ba bf=> ?_;clear hv hn bk ap O;go_cut [5,6] (λp q V=>q=Yc Wz/\YQ w1 k p V)
 case first=>exact YS
 case rest=>
  obtain⟨rfl,pb,⟨word,kind,gu,gf,caps,gr,gt⟩,rfl,q_,hF,aV,wk⟩:=hcut;have X:=aa wk;obtain⟨⟨p0,p1,p2,p3,p4,p5⟩,_⟩:=Mv wk;have uH:kind=k:=hF.kind;have er:=hF.er;unfold dp at er;simp only at er;refine YT λjz ug gX bd aR vN=> ?_;simp only[bm] at p4;clear hF aV wk uH p0 p2 p3 p5;simp only[aj];go_wp2_with fail
  refine YU ?_;intro W ⟨aU,hU,Y,CR⟩;refine YV λaT iW Gn h8 qc GH Ch=> ?_;clear aU hU p1 p4;have I: ∀z∈(cW s).drop 1,z.size<=1000000:=λz h=>by have:=yX.out.2 z (XV h);omega
  have G:((cW s).drop 1).length<=100000:=TK;have DN:=aa I;have vB:=aa G;clear I G;by_cases C: ¬c=1
  .have g:cD W.drew wc.heap.size (.slice (some ⟨bl,ol+1,none⟩) (n - 1) (c - 1)) ((cW s).drop 1):=
    cD.below (((HV.out.drop 1 Yi).below aR.out (ag _)).more aR.out.size) (aX aT.out) (ag _)
   have D4:=aa g;clear g;refine pD 11 ?_;refine lW 0 24 ?_;iterate 2 refine ja 12 24 ?_
   refine fi 1 λK hK=> ?_;go_simp;refine hK _ _ ?_;clear hK K;refine aG ?_;refine fi 4 λK hK=> ?_;go_simp;refine YW ?_;exact aw3
  .obtain rfl:c=1:=Classical.not_not.1 C;obtain rfl:n=1:=by omega
   have hd:(cW s).drop 1=[]:=TR;have g:cD W.drew wc.heap.size (Yb (Ws (bl ol Wr)) 0 0) ((cW s).drop 1):=Kh;have D4:=aa g;clear g C hd;refine pD 11 ?_;refine lW 0 24 ?_;iterate 2 refine ja 12 24 ?_
   refine fi 1 λK hK=> ?_;go_simp;refine hK _ _ ?_;clear hK K;refine aG ?_;refine fi 4 λK hK=> ?_;go_simp;refine YX ?_;exact aw3
def aw4 (s:ByteArray) (w:Wu) (c:cH w) (g:s.size<=100000):
 WJ WH 10 #[s] w (Mw w (cW s)):=by
 cases hk:qi (aJ (cW s) 0) with
 |none=>exact en1 s w c g hk
 |some k=>
  cases hr:iB k ((cW s).drop 1) with
  |none=>exact en2 s w c g k hk hr
  |some y=>
   cases hv:fE y with
   |false=>exact en3 s w c g k hk y hr hv
   |true=>exact en4 s w c g k hk y hr hv
end
section
open Go Go.RowKit Go.Proofs.Tryz
def Y2 (b:List au) (d:au):Nat:=(b.filter λx=>Wt (bD x.kind=bD d.kind)).length
def oz:List au->List au->cO
 |_,[]=>[]
 |b,d::r=>(if d.name=[] then[] else[(d.name,d.kind,Y2 (b++[d]) d)])++oz (b++[d]) r
def kP (l:List au):List ak:=(l.map (·.name)).filter λs=> !Wt (s=[])
def ew1 {t:cO} {s:ak} (h:s∉t.map (·.1)):cY t s=none:=by unfold cY;rw[List.find?_eq_none.2 (λx hx=>by have:x.1≠s:=λe=>h (e▸XG hx);simpa using this)];rfl
def IB: ∀{t:cO} {s:ak} {k n:Nat},(t.map (·.1)).Nodup->(s,k,n)∈t->cY t s=Ws (k,n)
 |[],s,k,n,_,h=>by cases h
 |x::t,s,k,n,hn,h=>by
  rw[WO,List.nodup_cons] at hn;unfold cY;rcases List.mem_cons.1 h with rfl|h
  .simp
  .have hx:x.1≠s:=λe=>hn.1 (e▸XG (f:=(·.1)) h);rw[List.find?_cons_of_neg (by simpa using hx)];exact IB hn.2 h
def Y3: ∀(c b g:List au),oz b (c++g)=oz b c++oz (b++c) g
 |[],b,g=>by simp[oz]
 |d::c,b,g=>by rw[WZ,oz,oz,Y3 c (b++[d]) g];simp
def au7: ∀(l b:List au),(oz b l).map (·.1)=kP l
 |[],b=>rfl
 |d::l,b=>by rw[oz,Xb,au7 l (b++[d])];by_cases e:d.name=[]<;>simp[kP,e]
def au8: ∀(l b:List au) (t:cO),(∀d∈l,bx d=Wz)->(t.map (·.1)++kP l).Nodup->
 (∀k,k=8\/k=9->((b++l).filter λx=>Wt (x.kind=k)).length<=1)->iN b t l= .ok (t++oz b l)
 |[],b,t,_,_,_=>by simp[iN,oz]
 |d::r,b,t,hv,hn,hk=>by
  rw[iN,if_neg (by simp[hv d Yl]),if_neg ?_]
  .rw[au8 r (b++[d]) _ (λx hx=>hv x (by simp[hx])) ?_ (λk h=>by have:=hk k h;simpa using this)]
   .by_cases e:d.name=[]<;>simp[e,oz,Y2]
   .by_cases e:d.name=[]
    .simpa[e,kP] using hn
    .simpa[e,kP] using hn
  .intro h;rw[Bool.or_eq_true] at h;rcases h with h|h
   .rw[Bool.and_eq_true] at h;have j:d.name≠[]:=by simpa using h.1
    have z:d.name∈kP (d::r):=by simp[kP,j]
    have:=ew1 (t:=t) (s:=d.name) (λhm=>(List.nodup_append.1 hn).2.2 _ hm _ z rfl);rw[this] at h;simp at h
   .rw[Bool.and_eq_true] at h;obtain⟨h8,h9⟩:=h;obtain⟨x,hx,c⟩:=List.any_eq_true.1 h9;have c:x.kind=d.kind:=by simpa using c
    have g:d.kind=8\/d.kind=9:=by simpa using h8
    have:=hk d.kind g;rw[List.filter_append,WG,List.filter_cons_of_pos Yl,Xg] at this;have A:0<(b.filter λy=>Wt (y.kind=d.kind)).length:=List.length_pos_of_mem (List.mem_filter.2 ⟨hx,by simpa using c⟩);omega
def au9 (c:Nat): ∀(seg b:List au) (i:Nat) (d:au),(∀x∈seg,bD x.kind=c)->seg[i]? =Ws d->d.name≠[]->
 (d.name,d.kind,(b.filter λx=>Wt (bD x.kind=c)).length+i+1)∈oz b seg
 |[],b,i,d,_,h,_=>by simp at h
 |x::seg,b,0,d,hc,h,hn=>by simp at h;subst h;have hx:=hc x Yl;rw[oz,if_neg hn];refine List.mem_append_left _ ?_;simp[Y2,hx]
 |x::seg,b,i+1,d,hc,h,hn=>by
  have hx:=hc x Yl;have g:=au9 c seg (b++[x]) i d (λy hy=>hc y qO) zi hn;rw[oz];refine List.mem_append_right _ ?_;rw[List.filter_append,WG,List.filter_cons_of_pos zk] at g;have e:(b.filter λx=>Wt (bD x.kind=c)).length+(i+1)+1=(b.filter λx=>Wt (bD x.kind=c)).length+([x].filter λx=>Wt (bD x.kind=c)).length+i+1:=by simp[hx];omega
  rw[e];simpa[hx] using g
def MF {c:Nat} {A seg C:List au} (g: ∀x∈A,bD x.kind≠c) (y: ∀x∈seg,bD x.kind=c) {i:Nat} {d:au} (h:seg[i]? =Ws d) (j:d.name≠[]):
 (d.name,d.kind,i+1)∈oz [] (A++(seg++C)):=by
 have:=au9 c seg A i d y h j;rw[List.filter_eq_nil_iff.2 (λx hx=>by simpa using g x hx)] at this;rw[Y3,Y3];refine List.mem_append_right _ (List.mem_append_left _ ?_);simpa using this
def F0 {α:Type} {c:α->List α->Bool}: ∀{l b:List α} {x:α},dN c b l=Wz->x∈l->∃g,c x g=Wz
 |[],b,x,_,h=>by cases h
 |y::l,b,x,hs,h=>by
  rw[dN,WC] at hs;rcases List.mem_cons.1 h with rfl|h
  .exact⟨b,hs.1⟩
  .exact F0 hs.2 h
def av0: ∀(l b:List ak),dN (λs b=>br s&& !Wt (s∈b)) b l=Wz->l.Nodup/\∀s∈l,s∉b/\br s=Wz
 |[],b,_=>⟨List.nodup_nil,by simp⟩
 |x::l,b,h=>by
  rw[dN,WC,WC] at h;obtain⟨⟨h1,h2⟩,h3⟩:=h;obtain⟨i1,i2⟩:=av0 l (b++[x]) h3;have j:x∉b:=by simpa using h2
  refine⟨List.nodup_cons.2 ⟨λhx=>(i2 x hx).1 Yl,i1⟩,λs c=> ?_⟩;rcases List.mem_cons.1 c with rfl|c
  .exact⟨j,h1⟩
  .exact⟨λg=>(i2 s c).1 (by simp[g]),(i2 s c).2⟩
def kr {n:Int} {k:Nat}:aH n k=Wz↔1<=n/\n<=k:=by simp[aH,aD]
def vb {n a b:Int}:aD n a b=Wz↔a<=n/\n<=b:=by simp[aD]
def Y4 (k:Nat): ∀(l b:List Int),dN (λn b=>aH n k&&(match b.getLast? with|none=>Wz|some p=>Wt (p<n))) b l=Wz->
 l.Pairwise (· < ·)/\(∀n∈l,aH n k=Wz)/\∀p,b.getLast?=Ws p->∀n∈l,p<n
 |[],b,_=>⟨List.Pairwise.nil,by simp,by simp⟩
 |x::l,b,h=>by
  rw[dN,WC,WC] at h;obtain⟨⟨h1,g⟩,h3⟩:=h;obtain⟨i1,i2,i3⟩:=Y4 k l (b++[x]) h3;have j:=i3 x Yl;refine⟨List.pairwise_cons.2 ⟨j,i1⟩,λn c=> ?_,λp y n c=> ?_⟩
  .rcases List.mem_cons.1 c with rfl|c
   .exact h1
   .exact i2 n c
  .rw[y] at g;have g:p<x:=by simpa using g
   rcases List.mem_cons.1 c with rfl|c
   .exact g
   .have:=j n c;omega
def av1: ∀(l:List Int),l.Pairwise (· < ·)->lX l=l
 |[],_=>rfl
 |x::l,h=>by
  obtain⟨h1,h2⟩:=List.pairwise_cons.1 h;show wQ x (lX l)=_;rw[av1 l h2];cases l with
  |nil=>rfl
  |cons y l=>rw[wQ,if_pos (by have:=h1 y Yl;omega)]
def ew2 {k:Nat} {l:List Int} (h:Yt k l=Wz):lX l=l/\l.Nodup/\∀n∈l,aH n k=true:=by obtain⟨h1,h2,_⟩:=Y4 k l [] h;exact⟨av1 l h1,h1.imp (λh=>by omega),h2⟩
def IC {l:List ak} {n:Int} (h:aH n l.length=Wz): ∃i:Nat,l[i]? =Ws (dG l n)/\(i:Int)+1=n/\i+1=n.toNat:=by obtain⟨h1,h2⟩:=kr.1 h;refine⟨(n - 1).toNat,?_,by omega,by omega⟩;have c:(n - 1).toNat<l.length:=Yi;unfold dG;rw[WP,Wy c];rfl
def zZ {l:List ak} {n:Int} (h:aH n l.length=Wz):dG l n∈l:=by obtain⟨i,hi,_⟩:=IC h;exact eD hi
def dS (m:aM):List au:=m.sites.map λs=>{kind:=0,name:=s}
def dF (m:aM):List au:=m.feeds.map λs=>{kind:=1,name:=s}
def qr (m:aM) (x:mU):au:={kind:=2,name:=x.name,refs:=[dG m.sites x.site,dG m.feeds x.feed]}
def dR (m:aM):List au:=m.racks.map (qr m)
def qs (m:aM) (x:ri):au:={kind:=3,name:=x.name,refs:=[dG (m.racks.map (·.name)) x.rack],nums:=[x.cap.toNat]}
def dM (m:aM):List au:=m.machs.map (qs m)
def t9 (m:aM) (x:tO):au:={kind:=4,refs:=[dG m.sites x.a,dG m.sites x.b],nums:=[x.cap.toNat]}
def dL (m:aM):List au:=m.links.map (t9 m)
def dI (m:aM):List au:=m.items.map (sC m)
def dD (m:aM):List au:=[{kind:=8,refs:=[dG m.sites m.dark],nums:=[m.slots.toNat,m.reserve.toNat]}]
def dX (m:aM):List au:=if 0<m.failures then[{kind:=9,by_:=m.failures.toNat}] else[]
def rU (m:aM):List au:=m.rules.map (cN m)
def z_ (m:aM):lz m=dS m++(dF m++(dR m++(dM m++(dL m++(dI m++(dD m++(dX m++rU m))))))):=by simp only[lz,Xd];rfl
structure sH (m:aM):Prop where
 sn:1<=m.sites.length/\m.sites.length<=4
 fn:m.feeds.length<=16
 rn:m.racks.length<=16
 mn:1<=m.machs.length/\m.machs.length<=16
 ln:m.links.length<=12
 xn:m.items.length<=8
 un:m.rules.length<=40
 racks: ∀x∈m.racks,aH x.site m.sites.length=Wz/\aH x.feed m.feeds.length=Wz
 machs: ∀x∈m.machs,aH x.rack m.racks.length=Wz/\0<=x.cap/\x.cap<=1048576
 links: ∀x∈m.links,aH x.a m.sites.length=Wz/\aH x.b m.sites.length=Wz/\x.a<x.b/\0<=x.cap/\x.cap<=1048576
 items: ∀x∈m.items,dO m x=Wz
 rules: ∀x∈m.rules,df m x=Wz
 dark:aH m.dark m.sites.length=Wz
 slots:1<=m.slots/\m.slots<=16
 reserve:0<=m.reserve/\m.reserve<m.slots
 failures:0<=m.failures/\m.failures<=7
 nodup:(cG m).Nodup
 names: ∀s∈cG m,br s=Wz
def F3 {m:aM} (h:dZ m=Wz):sH m:=by
 unfold dZ fu at h;simp only[WC,decide_eq_true_eq,kr,vb,Xo] at h;obtain⟨⟨⟨⟨⟨⟨⟨⟨⟨⟨⟨⟨⟨⟨⟨⟨c,hf⟩,hr⟩,hm⟩,hl⟩,sr⟩,sm⟩,sl⟩,xi⟩,xu⟩,hd⟩,kG⟩,Vw⟩,mD⟩,gV⟩,hit⟩,LC⟩:=h;obtain⟨n1,n2⟩:=av0 _ _ gV;refine⟨by omega,hf,hr,by omega,hl,xi,xu,λx hx=> ?_,λx hx=> ?_,λx hx=> ?_,hit,LC,kr.2 hd,kG,by omega,mD,n1,λs c=>(n2 s c).2⟩
 .obtain⟨b,hb⟩:=F0 sr hx;simp only[jh,WC] at hb;exact hb.1
 .obtain⟨b,hb⟩:=F0 sm hx;simp only[uT,WC,vb] at hb;exact hb
 .obtain⟨b,hb⟩:=F0 sl hx;simp only[ji,WC,vb,decide_eq_true_eq] at hb;obtain⟨⟨⟨⟨h1,h2⟩,h3⟩,h4⟩,_⟩:=hb;exact⟨kr.2 ⟨h1,by omega⟩,kr.2 ⟨by omega,h3⟩,h2,h4⟩
def av2 {s:ak} (h:br s=Wz):s≠[]:=by rintro rfl;simp[br] at h
def er2 (a b:List au):kP (a++b)=kP a++kP b:=by simp[kP]
def MG {α:Type} (f:α->au) (l:List α) (h: ∀x∈l,(f x).name≠[]):kP (l.map f)=l.map λx=>(f x).name:=by unfold kP;rw[XB];exact List.filter_eq_self.2 λs c=>by obtain⟨x,hx,rfl⟩:=List.mem_map.1 c;simpa using h x hx
def Qf (l:List au) (h: ∀x∈l,x.name=[]):kP l=[]:=by unfold kP;exact List.filter_eq_nil_iff.2 λs c=>by obtain⟨x,hx,rfl⟩:=List.mem_map.1 c;simp[h x hx]
def av3 {m:aM} (h:sH m):kP (lz m)=cG m:=by
 have ne: ∀s∈cG m,s≠[]:=λs I=>av2 (h.names s I);unfold cG at ne;simp only[Xt] at ne;rw[z_];simp only[er2];have c:kP (dS m)=m.sites:=by rw[dS,MG _ _ (λx hx=>ne x (.inl (.inl (.inl (.inl hx)))))];simp
 have g:kP (dF m)=m.feeds:=by rw[dF,MG _ _ (λx hx=>ne x (.inl (.inl (.inl (.inr hx)))))];simp
 have j:kP (dR m)=m.racks.map (·.name):=by rw[dR,MG _ _ (λx hx=>ne x.name (.inl (.inl (.inr (XG hx)))))];rfl
 have z:kP (dM m)=m.machs.map (·.name):=by rw[dM,MG _ _ (λx hx=>ne x.name (.inl (.inr (XG hx))))];rfl
 have A:kP (dL m)=[]:=Qf _ λx hx=>by obtain⟨y,_,rfl⟩:=List.mem_map.1 hx;rfl
 have C:kP (dI m)=m.items.map (·.name):=by rw[dI,MG _ _ (λx hx=>ne x.name (.inr (XG hx)))];rfl
 have D:kP (dD m)=[]:=Qf _ λx hx=>by simp only[dD,List.mem_singleton] at hx;subst hx;rfl
 have F:kP (dX m)=[]:=Qf _ λx hx=>by
  unfold dX at hx;split at hx
  .simp only[List.mem_singleton] at hx;subst hx;rfl
  .cases hx
 have G:kP (rU m)=[]:=Qf _ λx hx=>by obtain⟨y,_,rfl⟩:=List.mem_map.1 hx;rfl
 rw[c,g,j,z,A,C,D,F,G];simp[cG]
def F4 {m:aM} {x:fg} (h:dO m x=Wz):(x.kind=0\/x.kind=1\/x.kind=2)/\ff m x.on=Wz/\(0<=x.load/\x.load<=1048576)/\(0<=x.size/\x.size<=1048576)/\(1<=x.share/\x.share<=1048576)/\
 (x.kind=0->(x.count=1\/x.count=3\/x.count=5)/\x.count=x.on.length)/\(x.kind=1->1<=x.count/\x.count<=8)/\(x.kind=2->x.count=1/\x.on.length=1):=by
 unfold dO at h;simp only[WC,vb] at h;obtain⟨⟨⟨⟨h1,h2⟩,h3⟩,h4⟩,h5⟩:=h;refine⟨?_,h2,h3,h4,h5,λe=> ?_,λe=> ?_,λe=> ?_⟩
 .by_cases c:x.kind=0
  .exact .inl c
  .by_cases g:x.kind=1
   .exact .inr (.inl g)
   .by_cases j:x.kind=2
    .exact .inr (.inr j)
    .simp[c,g,j] at h1
 .simp[e] at h1;exact⟨by omega,h1.2⟩
 .simp[e,aD] at h1;exact h1
 .simp[e] at h1;exact h1
def Ds {m:aM} {l:List Int} (h:ff m l=Wz):lX l=l/\l.Nodup/\(∀n∈l,aH n m.machs.length=Wz)/\0<l.length:=by unfold ff at h;rw[WC,decide_eq_true_eq] at h;obtain⟨h1,h2,h3⟩:=ew2 h.1;exact⟨h1,h2,h3,h.2⟩
structure mY (m:aM) (T:cO):Prop where
 site: ∀n,aH n m.sites.length=Wz->cY T (dG m.sites n)=Ws (0,n.toNat)
 feed: ∀n,aH n m.feeds.length=Wz->cY T (dG m.feeds n)=Ws (1,n.toNat)
 rack: ∀n,aH n m.racks.length=Wz->cY T (dG (m.racks.map (·.name)) n)=Ws (2,n.toNat)
 mach: ∀n,aH n m.machs.length=Wz->cY T (dG (m.machs.map (·.name)) n)=Ws (3,n.toNat)
 item: ∀n,aH n m.items.length=Wz->cY T (dG (m.items.map (·.name)) n)=Ws ((5+pL m n).toNat,n.toNat)/\(pL m n=0\/pL m n=1\/pL m n=2)
def ID {m:aM} {x:au} (h:x∈dS m):x.kind=0:=Ke
def MH {m:aM} {x:au} (h:x∈dF m):x.kind=1:=Ke
def Qg {m:aM} {x:au} (h:x∈dR m):x.kind=2:=Ke
def Y5 {m:aM} {x:au} (h:x∈dM m):x.kind=3:=Ke
def av4 {m:aM} {x:au} (h:x∈dL m):x.kind=4:=Ke
def av5 {m:aM} (hm:sH m) {x:au} (h:x∈dI m):x.kind=5\/x.kind=6\/x.kind=7:=by obtain⟨y,hy,rfl⟩:=List.mem_map.1 h;have:=(F4 (hm.items y hy)).1;show(5+y.kind).toNat=5\/(5+y.kind).toNat=6\/(5+y.kind).toNat=7;omega
def er3 {m:aM} {x:au} (h:x∈dD m):x.kind=8:=by simp only[dD,List.mem_singleton] at h;subst h;rfl
def er4 {m:aM} {x:au} (h:x∈dX m):x.kind=9:=by
 unfold dX at h;split at h
 .simp only[List.mem_singleton] at h;subst h;rfl
 .cases h
def er5 {m:aM} {x:cC} (h:df m x=Wz):0<=x.kind/\x.kind<=6:=by
 unfold df at h;dsimp only at h;by_cases c:x.kind=0
 .omega
 by_cases g:x.kind=1
 .omega
 by_cases j:x.kind=2
 .omega
 by_cases y:x.kind=3
 .omega
 by_cases z:x.kind=4
 .omega
 by_cases A:x.kind=5
 .omega
 by_cases C:x.kind=6
 .omega
 rw[if_neg c,if_neg g,if_neg j,if_neg y,if_neg z,if_neg A,if_neg C] at h;cases h
def av6 {m:aM} (hm:sH m) {x:au} (h:x∈rU m):10<=x.kind/\x.kind<=16:=by obtain⟨y,hy,rfl⟩:=List.mem_map.1 h;have:=er5 (hm.rules y hy);show 10<=(10+y.kind).toNat/\(10+y.kind).toNat<=16;omega
def av7 {k:Nat} (h:k=5\/k=6\/k=7):bD k=5:=by unfold bD;rw[if_pos Yi]
def er6 {m:aM} (hm:sH m):mY m (oz [] (lz m)):=by
 have G:((oz [] (lz m)).map (·.1)).Nodup:=by rw[au7,av3 hm];exact hm.nodup
 have D:=hm.names;unfold cG at D;simp only[Xt] at D;have ne: ∀s,((((s∈m.sites\/s∈m.feeds)\/s∈m.racks.map (·.name))\/s∈m.machs.map (·.name))\/s∈m.items.map (·.name))->s≠[]:=λs O=>av2 (D s O);have F:=z_ m;constructor
 .intro n g;obtain⟨i,h1,h2,h3⟩:=IC g;refine IB G ?_;rw[F,<-h3];have:=MF (c:=0) (A:=[]) (seg:=dS m) (C:=dF m++(dR m++(dM m++(dL m++(dI m++(dD m++(dX m++rU m))))))) (i:=i) (d:={kind:=0,name:=dG m.sites n}) (by simp) (λx hx=>by rw[ID hx];rfl)
   (by rw[dS,WN,h1];rfl) (ne _ (.inl (.inl (.inl (.inl (zZ g))))))
  simpa using this
 .intro n g;obtain⟨i,h1,h2,h3⟩:=IC g;refine IB G ?_;rw[F,<-h3];have:=MF (c:=1) (A:=dS m) (seg:=dF m) (C:=dR m++(dM m++(dL m++(dI m++(dD m++(dX m++rU m)))))) (i:=i) (d:={kind:=1,name:=dG m.feeds n}) (λx hx=>by rw[ID hx];decide) (λx hx=>by rw[MH hx];rfl)
   (by rw[dF,WN,h1];rfl) (ne _ (.inl (.inl (.inl (.inr (zZ g))))))
  simpa using this
 .intro n g;have j:aH n (m.racks.map (·.name)).length=true:=by rw[List.length_map];exact g
  obtain⟨i,h1,h2,h3⟩:=IC j;obtain⟨x,hx,C8⟩:=WN ..▸h1|>Option.map_eq_some_iff.1;refine IB G ?_;rw[F,<-h3];have:=MF (c:=2) (A:=dS m++dF m) (seg:=dR m) (C:=dM m++(dL m++(dI m++(dD m++(dX m++rU m))))) (i:=i) (d:=qr m x)
   (λy z=>by rcases List.mem_append.1 z with h|h;(rw[ID h];decide);(rw[MH h];decide)) (λx hx=>by rw[Qg hx];rfl)
   (by rw[dR,WN,hx];rfl) (by show x.name≠[];rw[C8];exact ne _ (.inl (.inl (.inr (zZ j)))))
  rw[<-C8];simpa[qr] using this
 .intro n g;have j:aH n (m.machs.map (·.name)).length=true:=by rw[List.length_map];exact g
  obtain⟨i,h1,h2,h3⟩:=IC j;obtain⟨x,hx,C8⟩:=WN ..▸h1|>Option.map_eq_some_iff.1;refine IB G ?_;rw[F,<-h3];have:=MF (c:=3) (A:=dS m++(dF m++dR m)) (seg:=dM m) (C:=dL m++(dI m++(dD m++(dX m++rU m)))) (i:=i) (d:=qs m x)
   (λy z=>by
     simp only[Xt] at z;rcases z with h|h|h
     .rw[ID h];decide
     .rw[MH h];decide
     .rw[Qg h];decide) (λx hx=>by rw[Y5 hx];rfl)
   (by rw[dM,WN,hx];rfl) (by show x.name≠[];rw[C8];exact ne _ (.inl (.inr (zZ j))))
  rw[<-C8];simpa[qs] using this
 .intro n g;have j:aH n (m.items.map (·.name)).length=true:=by rw[List.length_map];exact g
  obtain⟨i,h1,h2,h3⟩:=IC j;obtain⟨x,hx,C8⟩:=WN ..▸h1|>Option.map_eq_some_iff.1;have I:pL m n=x.kind:=by unfold pL;rw[show(n - 1).toNat=i by omega,hx];rfl
  have J:=(F4 (hm.items x (eD hx))).1;refine⟨IB G ?_,by rw[I];exact J⟩;rw[F,<-h3,I];have:=MF (c:=5) (A:=dS m++(dF m++(dR m++(dM m++dL m)))) (seg:=dI m) (C:=dD m++(dX m++rU m)) (i:=i) (d:=sC m x)
   (λy z=>by
     simp only[Xt] at z;rcases z with h|h|h|h|h
     .rw[ID h];decide
     .rw[MH h];decide
     .rw[Qg h];decide
     .rw[Y5 h];decide
     .rw[av4 h];decide) (λx hx=>av7 (av5 hm hx))
   (by rw[dI,WN,hx];rfl) (by show x.name≠[];rw[C8];exact ne _ (.inr (zZ j)))
  rw[<-C8];simpa[sC] using this
def mY.nsite {m:aM} {T:cO} (h:mY m T) {n:Int} (c:aH n m.sites.length=Wz):bC T (dG m.sites n)=n:=by unfold bC;rw[h.site n c];have:=kr.1 c;simp;omega
def mY.nfeed {m:aM} {T:cO} (h:mY m T) {n:Int} (c:aH n m.feeds.length=Wz):bC T (dG m.feeds n)=n:=by unfold bC;rw[h.feed n c];have:=kr.1 c;simp;omega
def mY.nrack {m:aM} {T:cO} (h:mY m T) {n:Int} (c:aH n m.racks.length=Wz):bC T (dG (m.racks.map (·.name)) n)=n:=by unfold bC;rw[h.rack n c];have:=kr.1 c;simp;omega
def mY.nmach {m:aM} {T:cO} (h:mY m T) {n:Int} (c:aH n m.machs.length=Wz):bC T (dG (m.machs.map (·.name)) n)=n:=by unfold bC;rw[h.mach n c];have:=kr.1 c;simp;omega
def mY.nitem {m:aM} {T:cO} (h:mY m T) {n:Int} (c:aH n m.items.length=Wz):bC T (dG (m.items.map (·.name)) n)=n:=by unfold bC;rw[(h.item n c).1];have:=kr.1 c;simp;omega
def mY.nmachs {m:aM} {T:cO} (h:mY m T) {l:List Int} (c: ∀n∈l,aH n m.machs.length=Wz):(l.map (dG (m.machs.map (·.name)))).map (bC T)=l:=by rw[XB];have:l.map (bC T∘dG (m.machs.map (·.name)))=l.map id:=List.map_congr_left λn g=>h.nmach (c n g);rw[this,List.map_id]
def mY.nodup {m:aM} {T:cO} (h:mY m T) {l:List Int} (g: ∀n∈l,aH n m.machs.length=Wz) (c:l.Nodup):(l.map (dG (m.machs.map (·.name)))).Nodup:=by have:=h.nmachs g;rw[<-this] at c;exact List.Pairwise.of_map (bC T) (λa b j e=>j (congrArg (bC T) e)) c
def wW {t:cO} {d:au} {i:Nat} {s:ak} {r:List ak} {x:Nat×Nat} (h:cY t s=Ws x) (c:fO d i x.1=Wz):kM t d i (s::r)=kM t d (i+1) r:=by
 rw[kM,h];simp only
 rw[if_pos c]
def Qh {m:aM} {T:cO} (h:mY m T) (d:au) (j: ∀i,fO d i 3=Wz\/i<1): ∀(l:List Int) (i:Nat),1<=i\/(∀i,fO d i 3=Wz)->(∀n∈l,aH n m.machs.length=Wz)->kM T d i (l.map (dG (m.machs.map (·.name))))=0
 |[],i,_,_=>rfl
 |n::l,i,c,hl=>by
  have g:fO d i 3=true:=by
   rcases c with c|c
   .rcases j i with h|h
    .exact h
    .omega
   .exact c i
  rw[WO,wW (h.mach n (hl n Yl)) g];exact Qh h d j l (i+1) (by rcases c with c|c;exact .inl Yi;exact .inr c) (λx hx=>hl x zk)
def qu {d:au} (c:je d=Wz) (g: ∀w∈d.refs,br w=Wz) (h: ∀n∈d.nums,n<=1048576):bx d=true:=by unfold bx;simp only[WC,Xo,decide_eq_true_eq];exact⟨⟨c,g⟩,h⟩
def EW (k:Nat): ∀(l:List Int) (p:Int),l.Pairwise (· < ·)->0<=p->(∀n∈l,p<n/\n<=k)->(l.length:Int)<=k - p\/l=[]
 |[],p,_,_,_=> .inr rfl
 |x::l,p,h,hp,hb=>by
  obtain⟨h1,g⟩:=List.pairwise_cons.1 h;have hx:=hb x Yl;rcases EW k l x g Yi (λn c=>⟨h1 n c,(hb n (by simp[c])).2⟩) with h|h
  .left;simp;omega
  .subst h;left;simp;omega
def IE {m:aM} {l:List Int} (h:ff m l=Wz):l.length<=m.machs.length:=by
 unfold ff at h;rw[WC,decide_eq_true_eq] at h;obtain⟨c,h2,_⟩:=Y4 _ l [] h.1;rcases EW m.machs.length l 0 c Yi (λn g=>by have:=kr.1 (h2 n g);omega) with h|h
 .omega
 .subst h;simp
section
variable {m:aM} (hm:sH m)
include hm
theorem Qi {n:Int} (h:aH n m.sites.length=Wz):br (dG m.sites n)=true:=hm.names _ (by unfold cG;simp only[Xt];exact .inl (.inl (.inl (.inl (zZ h)))))
theorem er7 {n:Int} (h:aH n m.feeds.length=Wz):br (dG m.feeds n)=true:=hm.names _ (by unfold cG;simp only[Xt];exact .inl (.inl (.inl (.inr (zZ h)))))
theorem er8 {n:Int} (h:aH n m.racks.length=Wz):br (dG (m.racks.map (·.name)) n)=true:=
 hm.names _ (by unfold cG;simp only[Xt];exact .inl (.inl (.inr (zZ (by rw[WF];exact h)))))
theorem er9 {n:Int} (h:aH n m.machs.length=Wz):br (dG (m.machs.map (·.name)) n)=true:=
 hm.names _ (by unfold cG;simp only[Xt];exact .inl (.inr (zZ (by rw[WF];exact h))))
theorem es0 {n:Int} (h:aH n m.items.length=Wz):br (dG (m.items.map (·.name)) n)=true:=
 hm.names _ (by unfold cG;simp only[Xt];exact .inr (zZ (by rw[WF];exact h)))
theorem Qj {l:List Int} (h: ∀n∈l,aH n m.machs.length=Wz): ∀w∈l.map (dG (m.machs.map (·.name))),br w=true:=λw c=>by obtain⟨n,hn,rfl⟩:=List.mem_map.1 c;exact er9 hm (h n hn)
end
inductive sI (m:aM):cC->Prop where
 |quorum (i:Int):aH i m.items.length=Wz->pL m i=0->sI m ⟨0,i,0,0,0,Ww,[]⟩
 |keep (i n:Int) (a:Bool):aH i m.items.length=Wz->0<=n->n<=16->sI m ⟨1,i,0,n,0,a,[]⟩
 |spread (i n b:Int):aH i m.items.length=Wz->0<=n->n<=16->2<=b->b<=4->sI m ⟨2,i,0,n,b,Ww,[]⟩
 |only(i:Int) (l:List Int):aH i m.items.length=Wz->ff m l=Wz->sI m ⟨3,i,0,0,0,Ww,l⟩
 |order (i o:Int):aH i m.items.length=Wz->aH o m.items.length=Wz->i≠o->sI m ⟨4,i,o,0,0,Ww,[]⟩
 |disturb (n:Int):0<=n->n<=200->sI m ⟨5,0,0,n,0,Ww,[]⟩
 |silence (i n:Int):aH i m.items.length=Wz->0<=n->n<=16->sI m ⟨6,i,0,n,0,Ww,[]⟩
def MI {m:aM} {x:cC} (h:df m x=Wz):sI m x:=by
 obtain⟨k,i,o,n,b,a,l⟩:=x;unfold df at h;dsimp only at h;by_cases c:k=0
 .subst c;rw[if_pos rfl] at h;simp only[WC,XK,decide_eq_true_eq,WW,false_or,X2] at h;obtain⟨⟨⟨h1,h2⟩,rfl⟩,⟨⟨rfl,rfl⟩,rfl⟩,rfl⟩:=h;exact .quorum i h1 h2
 rw[if_neg c] at h;by_cases g:k=1
 .subst g;rw[if_pos rfl] at h;simp only[WC,XK,decide_eq_true_eq,WW,false_or,X2,true_or,and_true,vb] at h;obtain⟨⟨h1,h2,h3⟩,⟨rfl,rfl⟩,rfl⟩:=h;exact .keep i n a h1 h2 h3
 rw[if_neg g] at h;by_cases j:k=2
 .subst j;rw[if_pos rfl] at h;simp only[WC,XK,decide_eq_true_eq,WW,false_or,X2,true_or,and_true,vb] at h;obtain⟨⟨⟨h1,h2,h3⟩,h4,h5⟩,⟨rfl,rfl⟩,rfl⟩:=h;exact .spread i n b h1 h2 h3 h4 h5
 rw[if_neg j] at h;by_cases y:k=3
 .subst y;rw[if_pos rfl] at h;simp only[WC,XK,decide_eq_true_eq,WW,false_or,X2,true_or,and_true,vb] at h;obtain⟨⟨⟨h1,h2⟩,rfl⟩,⟨rfl,rfl⟩,rfl⟩:=h;exact .only i l h1 h2
 rw[if_neg y] at h;by_cases z:k=4
 .subst z;rw[if_pos rfl] at h;simp only[WC,XK,decide_eq_true_eq,WW,false_or,X2,true_or,and_true,true_and,vb,decide_eq_false_iff_not] at h;obtain⟨⟨⟨⟨h1,h2⟩,h3⟩,rfl⟩,⟨rfl,rfl⟩,rfl⟩:=h;exact .order i o h1 h2 h3
 rw[if_neg z] at h;by_cases A:k=5
 .subst A;rw[if_pos rfl] at h;simp only[WC,XK,decide_eq_true_eq,WW,false_or,X2,vb] at h;obtain⟨⟨rfl,h2,h3⟩,⟨⟨rfl,rfl⟩,rfl⟩,rfl⟩:=h;exact .disturb n h2 h3
 rw[if_neg A] at h;by_cases C:k=6
 .subst C;rw[if_pos rfl] at h;simp only[WC,XK,decide_eq_true_eq,WW,false_or,X2,vb] at h;obtain⟨⟨h1,h2,h3⟩,⟨⟨rfl,rfl⟩,rfl⟩,rfl⟩:=h;exact .silence i n h1 h2 h3
 rw[if_neg C] at h;cases h
def oB (m:aM) (i:Int):ak:=dG (m.items.map (·.name)) i
def QR (m:aM) {i:Int} (h:1<=i):cN m ⟨0,i,0,0,0,Ww,[]⟩={kind:=10,refs:=[oB m i]}:=by exact MJ
def QS (m:aM) {i:Int} (n:Int) (a:Bool) (h:1<=i):cN m ⟨1,i,0,n,0,a,[]⟩={kind:=11,refs:=[oB m i],nums:=[n.toNat],always:=a}:=by exact MJ
def QT (m:aM) {i:Int} (n b:Int) (h:1<=i):cN m ⟨2,i,0,n,b,Ww,[]⟩={kind:=12,refs:=[oB m i],nums:=[n.toNat],by_:=b.toNat}:=by exact MJ
def QU (m:aM) {i:Int} (l:List Int) (h:1<=i):cN m ⟨3,i,0,0,0,Ww,l⟩={kind:=13,refs:=oB m i::l.map (dG (m.machs.map (·.name)))}:=by exact MJ
def QV (m:aM) {i o:Int} (h:1<=i) (c:1<=o):cN m ⟨4,i,o,0,0,Ww,[]⟩={kind:=14,refs:=[oB m i,oB m o]}:=by simp[cN,oB,show(0:Int)<i by omega,show(0:Int)<o by omega]
def QW (m:aM) (n:Int):cN m ⟨5,0,0,n,0,Ww,[]⟩={kind:=15,nums:=[n.toNat]}:=by simp[cN,oB]
def QX (m:aM) {i:Int} (n:Int) (h:1<=i):cN m ⟨6,i,0,n,0,Ww,[]⟩={kind:=16,refs:=[oB m i],nums:=[n.toNat]}:=by exact MJ
def es1 {m:aM} (hm:sH m) {x:cC} (h:sI m x):bx (cN m x)=true:=by
 have nm {i:Int} (h:aH i m.items.length=Wz):br (oB m i)=true:=es0 hm h;have ge {i:Int} (h:aH i m.items.length=Wz):1<=i:=(kr.1 h).1;cases h with
 |quorum i c g=>rw[QR m (ge c)];exact qu rfl (by simp[nm c]) Yl
 |keep i n a c g h3=>rw[QS m n a (ge c)];exact qu (by simp[je,iz]) (by simp[nm c]) bI
 |spread i n b c g h3 h4 h5=>rw[QT m n b (ge c)];exact qu (by simp[je,iz];omega) (by simp[nm c]) bI
 |only i l c g=>
  rw[QU m l (ge c)];obtain⟨_,_,h3,h4⟩:=Ds g;have:=IE g;have y:=hm.mn;refine qu (by simp[je,iz];omega) (λw j=> ?_) Yl;rcases List.mem_cons.1 j with rfl|j
  .exact nm c
  .exact Qj hm h3 w j
 |order i o c g h3=>rw[QV m (ge c) (ge g)];exact qu rfl (by simp[nm c,nm g]) Yl
 |disturb n c g=>rw[QW];exact qu rfl Yl bI
 |silence i n c g h3=>rw[QX m n (ge c)];exact qu rfl (by simp[nm c]) bI
def ve {m:aM} {x:fg} (k:Nat) (h:x.kind=k):sC m x={kind:=5+k,name:=x.name,refs:=x.on.map (dG (m.machs.map (·.name))),nums:=(if k=1 then[x.count.toNat] else[])++[x.load.toNat,x.size.toNat,x.share.toNat]}:=by
 unfold sC;rw[h];by_cases e:k=1
 .subst e;rfl
 .rw[if_neg Yi,if_neg e];congr 1
def es2 {m:aM} (hm:sH m) {x:fg} (hx:x∈m.items):bx (sC m x)=true:=by
 obtain⟨g,h1,h2,h3,h4,h5,h6,h7⟩:=F4 (hm.items x hx);obtain⟨_,_,h8,h9⟩:=Ds h1;have j:=IE h1;have y:=hm.mn;have c:br x.name=true:=hm.names _ (by unfold cG;simp only[Xt];exact .inr (XG hx));rcases g with e|e|e
 .rw[ve 0 e];exact qu (by simp[je,iz,c];omega) (Qj hm h8) bI
 .rw[ve 1 e];exact qu (by simp[je,iz,c];omega) (Qj hm h8) (by have:=h6 e;simp;omega)
 .rw[ve 2 e];have:=(h7 e).2;exact qu (by simp[je,iz,c];omega) (Qj hm h8) bI
def QY {m:aM} (hm:sH m): ∀d∈lz m,bx d=true:=by
 have c:=hm.names;unfold cG at c;simp only[Xt] at c;intro d y;rw[z_] at y;simp only[Xt] at y;rcases y with h|h|h|h|h|h|h|h|h
 .obtain⟨s,hs,rfl⟩:=List.mem_map.1 h;exact qu (by simp[je,iz,c s (.inl (.inl (.inl (.inl hs))))]) Yl Yl
 .obtain⟨s,hs,rfl⟩:=List.mem_map.1 h;exact qu (by simp[je,iz,c s (.inl (.inl (.inl (.inr hs))))]) Yl Yl
 .obtain⟨x,hx,rfl⟩:=List.mem_map.1 h;obtain⟨g,j⟩:=hm.racks x hx;exact qu (by simp[je,iz,qr,c x.name (.inl (.inl (.inr (XG hx))))]) (by simp[qr,Qi hm g,er7 hm j]) (by simp[qr])
 .obtain⟨x,hx,rfl⟩:=List.mem_map.1 h;obtain⟨g,j,h3⟩:=hm.machs x hx;exact qu (by simp[je,iz,qs,c x.name (.inl (.inr (XG hx)))]) (by simp[qs,er8 hm g]) (by simp[qs];omega)
 .obtain⟨x,hx,rfl⟩:=List.mem_map.1 h;obtain⟨g,j,h3,h4,h5⟩:=hm.links x hx;exact qu rfl (by simp[t9,Qi hm g,Qi hm j]) (by simp[t9];omega)
 .obtain⟨x,hx,rfl⟩:=List.mem_map.1 h;exact es2 hm hx
 .simp only[dD,List.mem_singleton] at h;subst h;have g:=hm.slots;have j:=hm.reserve;exact qu rfl (by simp[Qi hm hm.dark]) bI
 .unfold dX at h;have:=hm.failures;split at h
  .simp only[List.mem_singleton] at h;subst h;exact qu (by simp[je,iz];omega) Yl Yl
  .cases h
 .obtain⟨x,hx,rfl⟩:=List.mem_map.1 h;exact es1 hm (MI (hm.rules x hx))
def rC {t:cO} {d:au} (c:kM t d 0 d.refs=0) (g:(jV d).Nodup) (j:d.kind=4\/d.kind=14->d.refs[0]?≠d.refs[1]?):ea t d=0:=by unfold ea;simp only[c];rw[if_neg Yl,if_neg (by simp[g]),if_neg (by rintro ⟨a,b⟩;exact j a b)]
def es3 {m:aM} (hm:sH m) {T:cO} (g:mY m T) {x:cC} (h:sI m x):ea T (cN m x)=0:=by
 have ge {i:Int} (h:aH i m.items.length=Wz):1<=i:=(kr.1 h).1;have lk {i:Int} (h:aH i m.items.length=Wz):cY T (oB m i)=Ws ((5+pL m i).toNat,i.toNat):=(g.item i h).1;have sc {i:Int} (h:aH i m.items.length=Wz):bD (5+pL m i).toNat=5:=av7 (by have:=(g.item i h).2;omega);cases h with
 |quorum i h1 c=>rw[QR m (ge h1)];exact rC (by rw[wW (lk h1) (by rw[c];rfl)];rfl) xA Yl
 |keep i n a h1 c h3=>rw[QS m n a (ge h1)];exact rC TQ xA Yl
 |spread i n b h1 c h3 h4 h5=>rw[QT m n b (ge h1)];exact rC TQ xA Yl
 |only i l h1 c=>
  rw[QU m l (ge h1)];obtain⟨_,h5,h3,h4⟩:=Ds c;refine rC ?_ ?_ Yl
  .rw[wW (lk h1) (by simp[fO,sc h1])];refine Qh g _ (λi=> ?_) l 1 (.inl (ag _)) h3
   match i with
   |0=>exact .inr Yi
   |i+1=>exact .inl rfl
  .simp[jV];exact g.nodup h3 h5
 |order i o h1 c h3=>
  rw[QV m (ge h1) (ge c)];refine rC (by rw[wW (lk h1) (by simp[fO,sc h1]),wW (lk c) (by simp[fO,sc c])];rfl) xA (λ_ e=>h3 ?_);simp at e;have a:=g.nitem h1;have b:=g.nitem c;unfold oB at e;rw[e,b] at a;exact a.symm
 |disturb n h1 c=>rw[QW];exact rC rfl xA Yl
 |silence i n h1 c h3=>rw[QX m n (ge h1)];exact rC TQ xA Yl
def es4 {m:aM} (hm:sH m) {T:cO} (hT:mY m T): ∀d∈lz m,ea T d=0:=by
 intro d c;rw[z_] at c;simp only[Xt] at c;rcases c with h|h|h|h|h|h|h|h|h
 .obtain⟨s,hs,rfl⟩:=List.mem_map.1 h;exact rC rfl xA Yl
 .obtain⟨s,hs,rfl⟩:=List.mem_map.1 h;exact rC rfl xA Yl
 .obtain⟨x,hx,rfl⟩:=List.mem_map.1 h;obtain⟨h1,h2⟩:=hm.racks x hx;exact rC (by unfold qr;rw[wW (hT.site _ h1) rfl,wW (hT.feed _ h2) rfl];rfl) (by simp[jV,qr]) (by simp[qr])
 .obtain⟨x,hx,rfl⟩:=List.mem_map.1 h;obtain⟨h1,h2,h3⟩:=hm.machs x hx;exact rC (by unfold qs;rw[wW (hT.rack _ h1) rfl];rfl) (by simp[jV,qs]) (by simp[qs])
 .obtain⟨x,hx,rfl⟩:=List.mem_map.1 h;obtain⟨h1,h2,h3,h4,h5⟩:=hm.links x hx;refine rC (by unfold t9;rw[wW (hT.site _ h1) rfl,wW (hT.site _ h2) rfl];rfl) (by simp[jV,t9]) (λ_ e=> ?_);simp[t9] at e;have a:=hT.nsite h1;rw[e,hT.nsite h2] at a;omega
 .obtain⟨x,hx,rfl⟩:=List.mem_map.1 h;obtain⟨g,h1,_⟩:=F4 (hm.items x hx);obtain⟨_,h5,h3,h4⟩:=Ds h1;have h6:=hT.nodup h3 h5;rcases g with e|e|e
  .rw[ve 0 e];exact av8
  .rw[ve 1 e];exact av8
  .rw[ve 2 e];exact rC (Qh hT _ (λi=> .inl cA) x.on 0 (.inr λi=>by rfl) h3) xA Yl
 .simp only[dD,List.mem_singleton] at h;subst h;exact rC (by rw[wW (hT.site _ hm.dark) rfl];rfl) xA Yl
 .unfold dX at h;split at h
  .simp only[List.mem_singleton] at h;subst h;exact rC rfl xA Yl
  .cases h
 .obtain⟨x,hx,rfl⟩:=List.mem_map.1 h;exact es3 hm hT (MI (hm.rules x hx))
def av9 (t:cO): ∀(l:List au) (i:Nat) (m:aM),(∀d∈l,ea t d=0)->mV t i m l= .ok (l.foldl (eA t) m)
 |[],i,m,_=>rfl
 |d::l,i,m,h=>by rw[mV,if_neg (by simp[h d Yl])];exact av9 t l (i+1) _ λx hx=>h x zk
def Dt {α:Type} (t:cO) (f:α->au) (aY:aM->List α->aM) (c: ∀M,aY M []=M) (g: ∀M a b,aY (aY M [a]) b=aY M (a::b)):
 ∀(l:List α) (M:aM),(∀M,∀x∈l,eA t M (f x)=aY M [x])->(l.map f).foldl (eA t) M=aY M l
 |[],M,_=>(c M).symm
 |x::l,M,h=>by rw[WO,List.foldl_cons,h M x Yl,Dt t f aY c g l _ (λM y hy=>h M y qO),g]
def aw0 {n:Int} (h:0<=n):fv [n.toNat] 0=n:=by simp[fv];omega
def es5 {m:aM} (hm:sH m) {T:cO} (j:mY m T) {x:cC} (h:sI m x):mt T (cN m x)=x:=by
 have ge {i:Int} (h:aH i m.items.length=Wz):1<=i:=(kr.1 h).1;have nm {i:Int} (h:aH i m.items.length=Wz):bC T (oB m i)=i:=j.nitem h;cases h with
 |quorum i c g=>rw[QR m (ge c)];simp[mt,f',fv,nm c]
 |keep i n a c g h3=>rw[QS m n a (ge c)];simp[mt,f',fv,nm c];omega
 |spread i n b c g h3 h4 h5=>rw[QT m n b (ge c)];simp[mt,f',fv,nm c];omega
 |only i l c g=>
  rw[QU m l (ge c)];obtain⟨h5,_,h3,_⟩:=Ds g;have:=j.nmachs h3;simp only[XB] at this;simp[mt,f',fv,nm c,this,h5]
 |order i o c g h3=>rw[QV m (ge c) (ge g)];simp[mt,f',fv,nm c,nm g]
 |disturb n c g=>rw[QW];simp[mt,f',fv];omega
 |silence i n c g h3=>rw[QX m n (ge c)];simp[mt,f',fv,nm c];omega
def es6 {t:cO} {M:aM} {d:au} (h:10<=d.kind):eA t M d={M with rules:=M.rules++[mt t d]}:=by obtain⟨k,hk⟩: ∃k,d.kind=k+10:=⟨d.kind - 10,by omega⟩;unfold eA;simp only[hk]
def es7 {m:aM} (hm:sH m) {T:cO} (h:mY m T) {x:fg} (hx:x∈m.items) (M:aM):eA T M (sC m x)={M with items:=M.items++[x]}:=by
 obtain⟨j,h1,h2,h3,h4,h5,h6,h7⟩:=F4 (hm.items x hx);obtain⟨h8,_,h9,_⟩:=Ds h1;have g:=h.nmachs h9;obtain⟨nm,k,c,ld,sz,sh,on⟩:=x;dsimp only at*
 rcases j with e|e|e
 .rw[ve 0 e];have:=(h5 e).2;subst e;simp only[eA,lv,g,h8];simp[fv,h2.1,h3.1,this];omega
 .rw[ve 1 e];have:=h6 e;subst e;simp only[eA,lv,g,h8];simp[fv,h2.1,h3.1];omega
 .rw[ve 2 e];have:=(h7 e).1;subst e;simp only[eA,lv,g,h8];simp[fv,h2.1,h3.1,this];omega
def es8 {m:aM} (hm:sH m) {T:cO} (c:mY m T):(lz m).foldl (eA T) {}=m:=by
 rw[z_];simp only[List.foldl_append];have y: ∀M,(dS m).foldl (eA T) M={M with sites:=M.sites++m.sites}:=λM=>Dt T _ (λM l=>{M with sites:=M.sites++l}) Yl Yl m.sites M (λM x hx=>rfl);have z: ∀M,(dF m).foldl (eA T) M={M with feeds:=M.feeds++m.feeds}:=λM=>Dt T _ (λM l=>{M with feeds:=M.feeds++l}) Yl Yl m.feeds M (λM x hx=>rfl);have A: ∀M,(dR m).foldl (eA T) M={M with racks:=M.racks++m.racks}:=λM=>Dt T _ (λM l=>{M with racks:=M.racks++l}) Yl Yl m.racks M (λM x hx=>by obtain⟨g,j⟩:=hm.racks x hx;simp[eA,qr,f',c.nsite g,c.nfeed j]);have C: ∀M,(dM m).foldl (eA T) M={M with machs:=M.machs++m.machs}:=λM=>Dt T _ (λM l=>{M with machs:=M.machs++l}) Yl Yl m.machs M (λM x hx=>by obtain⟨g,j,h3⟩:=hm.machs x hx;simp only[eA,qs,WO,XS,c.nrack g,aw0 j];rfl);have D: ∀M,(dL m).foldl (eA T) M={M with links:=M.links++m.links}:=λM=>Dt T _ (λM l=>{M with links:=M.links++l}) Yl Yl m.links M (λM x hx=>by obtain⟨g,j,h3,h4,h5⟩:=hm.links x hx;simp only[eA,t9,WO,XS,c.nsite g,c.nsite j,aw0 h4];have a:min x.a x.b=x.a:=Yi;have b:max x.a x.b=x.b:=Yi;simp[f',a,b]);have F: ∀M,(dI m).foldl (eA T) M={M with items:=M.items++m.items}:=λM=>Dt T _ (λM l=>{M with items:=M.items++l}) Yl Yl m.items M (λM x hx=>es7 hm c hx M);have G: ∀M,(dD m).foldl (eA T) M={M with dark:=m.dark,slots:=m.slots,reserve:=m.reserve}:=λM=>by
  have g:=hm.slots;have j:=hm.reserve;simp only[dD,List.foldl_cons,List.foldl_nil,eA,WO,XS,c.nsite hm.dark];have a:fv [m.slots.toNat,m.reserve.toNat] 0=m.slots:=by simp[fv];omega
  have b:fv [m.slots.toNat,m.reserve.toNat] 1=m.reserve:=by simp[fv];omega
  rw[a,b];rfl
 have I: ∀M:aM,M.failures=0->(dX m).foldl (eA T) M={M with failures:=m.failures}:=λM O=>by
  have g:=hm.failures;unfold dX;split
  .simp only[List.foldl_cons,List.foldl_nil,eA];congr 1;omega
  .have:m.failures=0:=by omega
   rw[this,<-O];rfl
 have J: ∀M,(rU m).foldl (eA T) M={M with rules:=M.rules++m.rules}:=λM=>Dt T _ (λM l=>{M with rules:=M.rules++l}) Yl Yl m.rules M (λM x hx=>by have U:=MI (hm.rules x hx);rw[es6 (av6 hm (XG hx)).1,es5 hm c U]);rw[y,z,A,C,D,F,G,I _ rfl,J];simp
def B6 (k:Nat) {l:List au} (h: ∀x∈l,x.kind≠k):(l.filter λx=>Wt (x.kind=k)).length=0:=by rw[List.filter_eq_nil_iff.2 λx hx=>by simpa using h x hx];rfl
def es9 {m:aM} (h:dZ m=Wz):nE (lz m)= .ok m:=by
 have hm:=F3 h;have g:=er6 hm;have j:iN [] [] (lz m)= .ok (oz [] (lz m)):=by
  have:=au8 (lz m) [] [] (QY hm) (by rw[av3 hm];simpa using hm.nodup) (λk y=> ?_)
  .simpa using this
  .rw[List.nil_append,z_];simp only[List.filter_append,List.length_append];rw[B6 k (l:=dS m) (λx hx=>by rw[ID hx];omega),B6 k (l:=dF m) (λx hx=>by rw[MH hx];omega),B6 k (l:=dR m) (λx hx=>by rw[Qg hx];omega),
    B6 k (l:=dM m) (λx hx=>by rw[Y5 hx];omega),B6 k (l:=dL m) (λx hx=>by rw[av4 hx];omega),B6 k (l:=dI m) (λx hx=>by have:=av5 hm hx;omega),
    B6 k (l:=rU m) (λx hx=>by have:=av6 hm hx;omega)]
   have z:(dD m).length=1:=rfl;have A:(dX m).length<=1:=by unfold dX;split<;>simp
   have C:=List.length_filter_le (λx:au=>Wt (x.kind=k)) (dD m);have D:=List.length_filter_le (λx:au=>Wt (x.kind=k)) (dX m);rcases y with rfl|rfl
   .rw[B6 8 (l:=dX m) (λx hx=>by rw[er4 hx];omega)];omega
   .rw[B6 9 (l:=dD m) (λx hx=>by rw[er3 hx];omega)];omega
 have c:(lz m).any (λd=>Wt (d.kind=8))=true:=by rw[List.any_eq_true];refine⟨{kind:=8,refs:=[dG m.sites m.dark],nums:=[m.slots.toNat,m.reserve.toNat]},?_,rfl⟩;rw[z_];simp[dD]
 unfold nE;rw[j];simp only;rw[av9 _ _ _ _ (es4 hm g),es8 hm g];simp only;rw[c,h];rfl
end
section
open Go Go.RowKit Go.MapKept Go.Proofs.Tryz
def nL (pb:Nat) (k:Nat):Value:=
 match k with
 |0=>Ye #[WM ⟨#[115,105,116,101]⟩,Yc Wz,WK Xr 0,WK Xr 0,WK Xr 0,.func (.func 238) #[] #[],Yc Ww,.func (.func 239) #[] #[]]
 |1=>Ye #[WM ⟨#[102,101,101,100]⟩,Yc Wz,WK Xr 0,WK Xr 0,WK Xr 0,.func (.func 238) #[] #[],Yc Ww,.func (.func 239) #[] #[]]
 |2=>Ye #[WM ⟨#[114,97,99,107]⟩,Yc Wz,WK Xr 2,WK Xr 2,WK Xr 0,.func (.func 238) #[] #[],Yc Ww,.func (.func 243) #[] #[]]
 |3=>Ye #[WM ⟨#[109,97,99,104,105,110,101]⟩,Yc Wz,WK Xr 1,WK Xr 1,WK Xr 1,.func (.func 238) #[] #[],Yc Ww,.func (.func 244) #[] #[]]
 |4=>Ye #[WM ⟨#[108,105,110,107]⟩,Yc Ww,WK Xr 2,WK Xr 2,WK Xr 1,.func (.func 238) #[] #[],Yc Ww,.func (.func 240) #[] #[]]
 |5=>Ye #[WM ⟨#[103,114,111,117,112]⟩,Yc Wz,WK Xr 1,WK Xr 16,WK Xr 3,.func (.func 238) #[] #[],Yc Ww,.func (.func 245) #[] #[]]
 |6=>Ye #[WM ⟨#[112,111,111,108]⟩,Yc Wz,WK Xr 1,WK Xr 16,WK Xr 4,.func (.func 238) #[] #[],Yc Ww,.func (.func 248) #[] #[]]
 |7=>Ye #[WM ⟨#[106,111,98]⟩,Yc Wz,WK Xr 1,WK Xr 1,WK Xr 3,.func (.func 238) #[] #[],Yc Ww,.func (.func 249) #[] #[]]
 |8=>Ye #[WM ⟨#[100,97,114,107]⟩,Yc Ww,WK Xr 1,WK Xr 1,WK Xr 2,.func (.func 238) #[] #[],Yc Ww,.func (.func 250) #[] #[]]
 |9=>Ye #[WM ⟨#[102,97,105,108,117,114,101,115]⟩,Yc Ww,WK Xr 0,WK Xr 0,WK Xr 0,.func (.func 251) #[] #[],Yc Ww,.func (.func 252) #[] #[]]
 |10=>Ye #[WM ⟨#[113,117,111,114,117,109]⟩,Yc Ww,WK Xr 1,WK Xr 1,WK Xr 0,.func (.func 238) #[] #[],Yc Ww,.func (.func 240) #[] #[]]
 |11=>Ye #[WM ⟨#[107,101,101,112]⟩,Yc Ww,WK Xr 1,WK Xr 1,WK Xr 1,.func (.func 238) #[] #[],Yc Wz,.func (.func 254) #[] #[aj pb]]
 |12=>Ye #[WM ⟨#[115,112,114,101,97,100]⟩,Yc Ww,WK Xr 1,WK Xr 1,WK Xr 1,.func (.func 255) #[] #[],Yc Ww,.func (.func 257) #[] #[]]
 |13=>Ye #[WM ⟨#[111,110,108,121]⟩,Yc Ww,WK Xr 2,WK Xr 17,WK Xr 0,.func (.func 238) #[] #[],Yc Ww,.func (.func 258) #[] #[]]
 |14=>Ye #[WM ⟨#[111,114,100,101,114]⟩,Yc Ww,WK Xr 2,WK Xr 2,WK Xr 0,.func (.func 238) #[] #[],Yc Ww,.func (.func 259) #[] #[]]
 |15=>Ye #[WM ⟨#[100,105,115,116,117,114,98]⟩,Yc Ww,WK Xr 0,WK Xr 0,WK Xr 1,.func (.func 238) #[] #[],Yc Ww,.func (.func 240) #[] #[]]
 |16=>Ye #[WM ⟨#[115,105,108,101,110,99,101]⟩,Yc Ww,WK Xr 1,WK Xr 1,WK Xr 1,.func (.func 238) #[] #[],Yc Ww,.func (.func 240) #[] #[]]
 |_=> .nilFunc
def yG (pb:Nat):Int->Option Value:=(aY (aY (aY (aY (aY (aY (aY (aY (aY (aY (aY (aY (aY (aY (aY (aY (aY (λ_=>Wr) 0 (nL pb 0)) 1 (nL pb 1)) 2 (nL pb 2)) 3 (nL pb 3)) 4 (nL pb 4)) 5 (nL pb 5)) 6 (nL pb 6)) 7 (nL pb 7)) 8 (nL pb 8)) 9 (nL pb 9)) 10 (nL pb 10)) 11 (nL pb 11)) 12 (nL pb 12)) 13 (nL pb 13)) 14 (nL pb 14)) 15 (nL pb 15)) 16 (nL pb 16))
def bb0 (pb:Nat) {k:Nat} (h:k<=16):yG pb k=Ws (nL pb k):=by rcases vJ h with rfl|rfl|rfl|rfl|rfl|rfl|rfl|rfl|rfl|rfl|rfl|rfl|rfl|rfl|rfl|rfl|rfl<;>rfl
def ez7 (pb:Nat) {k:Int} (h: ¬(0<=k/\k<=16)):yG pb k=none:=by unfold yG aY;repeat rw[if_neg Yi]
def Z5 (w:Wu):
 WJ WH 160 #[] w λe w'=> ∃M pb,e=Xz (.map (Ws M))/\de iO w' M (yG pb)/\w.heap.size<=pb/\w'.heap[pb]? =Ws (Yd #[.func (.func 240) #[] #[]] 210 (0,0))/\Below w w w':=by
 refine tP λlM=> ?_;refine ou λnV=> ?_;go_enter func160,ntmps160;go_upto_region 4 with (fail)
 refine cP (λW=>Below w w W/\W.heap[w.heap.size]? =Ws (Yd #[.func (.func 240) #[] #[]] 210 (0,0))) ⟨by first|exact cF (ae (af w) _) (ag _) _|exact ae (af w) _,by first|exact(aZ (Xn w _) _ _).trans rfl|exact Xn w _⟩ ?_;intro c ⟨aU,Z⟩;have j:c.cell? w=Ws (.func (.func 240) #[] #[]):=ah Z rfl;have g:=blk_lt Z;have qD:=aa (show Below c c (c.alloc (.map #[] 0)) from ae (af c) _);have aT:=aa aU;have Tw:=aa Z;clear aU Z;go_wp2_with first
  |(refine ev rfl (Yg 4) (Yh (WK Xr 0)) (Yg 7) 213 (.inr rfl) 3 212 (.int Xr) XI WI co c.heap.size (λ_=>Wr) rfl (de.made iO c) 0 (Ye #[WM ⟨#[115,105,116,101]⟩,Yc Wz,WK Xr 0,WK Xr 0,WK Xr 0,.func (.func 238) #[] #[],Yc Ww,.func (.func 239) #[] #[]]) rfl rfl ?_;intro w1 jj dK;have bf:=aa (dK.1 _ _ qD.out (ag _));have q1:w1.cell? w=Ws (.func (.func 240) #[] #[]):=(bf.out.cell (p:=w) g).trans j;clear dK)
  |(refine ev rfl (Yg 4) (Yh (WK Xr 1)) (Yg 10) 213 (.inr rfl) 3 212 (.int Xr) XI WI co c.heap.size _ rfl jj 1 (Ye #[WM ⟨#[102,101,101,100]⟩,Yc Wz,WK Xr 0,WK Xr 0,WK Xr 0,.func (.func 238) #[] #[],Yc Ww,.func (.func 239) #[] #[]]) rfl rfl ?_;intro w2 jk eT;have aR:=aa (eT.1 _ _ bf.out (ag _));have q2:w2.cell? w=Ws (.func (.func 240) #[] #[]):=(aR.out.cell (p:=w) g).trans j;clear eT jj)
  |(refine ev rfl (Yg 4) (Yh (WK Xr 2)) (Yg 12) 213 (.inr rfl) 3 212 (.int Xr) XI WI co c.heap.size _ rfl jk 2 (Ye #[WM ⟨#[114,97,99,107]⟩,Yc Wz,WK Xr 2,WK Xr 2,WK Xr 0,.func (.func 238) #[] #[],Yc Ww,.func (.func 243) #[] #[]]) rfl rfl ?_;intro w3 jl fj;have bg:=aa (fj.1 _ _ aR.out (ag _));have q3:w3.cell? w=Ws (.func (.func 240) #[] #[]):=(bg.out.cell (p:=w) g).trans j;clear fj jk)
  |(refine ev rfl (Yg 4) (Yh (WK Xr 3)) (Yg 14) 213 (.inr rfl) 3 212 (.int Xr) XI WI co c.heap.size _ rfl jl 3 (Ye #[WM ⟨#[109,97,99,104,105,110,101]⟩,Yc Wz,WK Xr 1,WK Xr 1,WK Xr 1,.func (.func 238) #[] #[],Yc Ww,.func (.func 244) #[] #[]]) rfl rfl ?_;intro w4 uB kD;have bE:=aa (kD.1 _ _ bg.out (ag _));have q4:w4.cell? w=Ws (.func (.func 240) #[] #[]):=(bE.out.cell (p:=w) g).trans j;clear kD jl)
  |(refine ev rfl (Yg 4) (Yh (WK Xr 4)) (Yg 17) 213 (.inr rfl) 3 212 (.int Xr) XI WI co c.heap.size _ rfl uB 4 (Ye #[WM ⟨#[108,105,110,107]⟩,Yc Ww,WK Xr 2,WK Xr 2,WK Xr 1,.func (.func 238) #[] #[],Yc Ww,.func (.func 240) #[] #[]]) rfl rfl ?_;intro w5 pT jm;have bY:=aa (jm.1 _ _ bE.out (ag _));have q5:w5.cell? w=Ws (.func (.func 240) #[] #[]):=(bY.out.cell (p:=w) g).trans j;clear jm uB)
  |(refine ev rfl (Yg 4) (Yh (WK Xr 5)) (Yg 19) 213 (.inr rfl) 3 212 (.int Xr) XI WI co c.heap.size _ rfl pT 5 (Ye #[WM ⟨#[103,114,111,117,112]⟩,Yc Wz,WK Xr 1,WK Xr 16,WK Xr 3,.func (.func 238) #[] #[],Yc Ww,.func (.func 245) #[] #[]]) rfl rfl ?_;intro w6 CE xM;have cK:=aa (xM.1 _ _ bY.out (ag _));have q6:w6.cell? w=Ws (.func (.func 240) #[] #[]):=(cK.out.cell (p:=w) g).trans j;clear xM pT)
  |(refine ev rfl (Yg 4) (Yh (WK Xr 6)) (Yg 21) 213 (.inr rfl) 3 212 (.int Xr) XI WI co c.heap.size _ rfl CE 6 (Ye #[WM ⟨#[112,111,111,108]⟩,Yc Wz,WK Xr 1,WK Xr 16,WK Xr 4,.func (.func 238) #[] #[],Yc Ww,.func (.func 248) #[] #[]]) rfl rfl ?_;intro w7 pU kS;have iL:=aa (kS.1 _ _ cK.out (ag _));have q7:w7.cell? w=Ws (.func (.func 240) #[] #[]):=(iL.out.cell (p:=w) g).trans j;clear kS CE)
  |(refine ev rfl (Yg 4) (Yh (WK Xr 7)) (Yg 23) 213 (.inr rfl) 3 212 (.int Xr) XI WI co c.heap.size _ rfl pU 7 (Ye #[WM ⟨#[106,111,98]⟩,Yc Wz,WK Xr 1,WK Xr 1,WK Xr 3,.func (.func 238) #[] #[],Yc Ww,.func (.func 249) #[] #[]]) rfl rfl ?_;intro w8 KT xN;have gW:=aa (xN.1 _ _ iL.out (ag _));have q8:w8.cell? w=Ws (.func (.func 240) #[] #[]):=(gW.out.cell (p:=w) g).trans j;clear xN pU)
  |(refine ev rfl (Yg 4) (Yh (WK Xr 8)) (Yg 25) 213 (.inr rfl) 3 212 (.int Xr) XI WI co c.heap.size _ rfl KT 8 (Ye #[WM ⟨#[100,97,114,107]⟩,Yc Ww,WK Xr 1,WK Xr 1,WK Xr 2,.func (.func 238) #[] #[],Yc Ww,.func (.func 250) #[] #[]]) rfl rfl ?_;intro w9 KU oF;have lh:=aa (oF.1 _ _ gW.out (ag _));have q9:w9.cell? w=Ws (.func (.func 240) #[] #[]):=(lh.out.cell (p:=w) g).trans j;clear oF KT)
  |(refine ev rfl (Yg 4) (Yh (WK Xr 9)) (Yg 26) 213 (.inr rfl) 3 212 (.int Xr) XI WI co c.heap.size _ rfl KU 9 (Ye #[WM ⟨#[102,97,105,108,117,114,101,115]⟩,Yc Ww,WK Xr 0,WK Xr 0,WK Xr 0,.func (.func 251) #[] #[],Yc Ww,.func (.func 252) #[] #[]]) rfl rfl ?_;intro AA KS xL;have rG:=aa (xL.1 _ _ lh.out (ag _));have pq:AA.cell? w=Ws (.func (.func 240) #[] #[]):=(rG.out.cell (p:=w) g).trans j;clear xL KU)
  |(refine ev rfl (Yg 4) (Yh (WK Xr 10)) (Yg 29) 213 (.inr rfl) 3 212 (.int Xr) XI WI co c.heap.size _ rfl KS 10 (Ye #[WM ⟨#[113,117,111,114,117,109]⟩,Yc Ww,WK Xr 1,WK Xr 1,WK Xr 0,.func (.func 238) #[] #[],Yc Ww,.func (.func 240) #[] #[]]) rfl rfl ?_;intro nw y I;have DB:=aa (I.1 _ _ rG.out (ag _));have vq:nw.cell? w=Ws (.func (.func 240) #[] #[]):=(DB.out.cell (p:=w) g).trans j;clear I KS)
  |(refine ev rfl (Yg 4) (Yh (WK Xr 11)) (Yg 32) 213 (.inr rfl) 3 212 (.int Xr) XI WI co c.heap.size _ rfl y 11 (Ye #[WM ⟨#[107,101,101,112]⟩,Yc Ww,WK Xr 1,WK Xr 1,WK Xr 1,.func (.func 238) #[] #[],Yc Wz,.func (.func 254) #[] #[aj w.heap.size]]) rfl rfl ?_;intro Jf z J;have DC:=aa (J.1 _ _ DB.out (ag _));have vt:Jf.cell? w=Ws (.func (.func 240) #[] #[]):=(DC.out.cell (p:=w) g).trans j;clear J y)
  |(refine ev rfl (Yg 4) (Yh (WK Xr 12)) (Yg 33) 213 (.inr rfl) 3 212 (.int Xr) XI WI co c.heap.size _ rfl z 12 (Ye #[WM ⟨#[115,112,114,101,97,100]⟩,Yc Ww,WK Xr 1,WK Xr 1,WK Xr 1,.func (.func 255) #[] #[],Yc Ww,.func (.func 257) #[] #[]]) rfl rfl ?_;intro Ns A O;have F':=aa (O.1 _ _ DC.out (ag _));have vv:Ns.cell? w=Ws (.func (.func 240) #[] #[]):=(F'.out.cell (p:=w) g).trans j;clear O z)
  |(refine ev rfl (Yg 4) (Yh (WK Xr 13)) (Yg 35) 213 (.inr rfl) 3 212 (.int Xr) XI WI co c.heap.size _ rfl A 13 (Ye #[WM ⟨#[111,110,108,121]⟩,Yc Ww,WK Xr 2,WK Xr 17,WK Xr 0,.func (.func 238) #[] #[],Yc Ww,.func (.func 258) #[] #[]]) rfl rfl ?_;intro Nt C U;have Ga:=aa (U.1 _ _ F'.out (ag _));have hn5:Nt.cell? w=Ws (.func (.func 240) #[] #[]):=(Ga.out.cell (p:=w) g).trans j;clear U A)
  |(refine ev rfl (Yg 4) (Yh (WK Xr 14)) (Yg 37) 213 (.inr rfl) 3 212 (.int Xr) XI WI co c.heap.size _ rfl C 14 (Ye #[WM ⟨#[111,114,100,101,114]⟩,Yc Ww,WK Xr 2,WK Xr 2,WK Xr 0,.func (.func 238) #[] #[],Yc Ww,.func (.func 259) #[] #[]]) rfl rfl ?_;intro xg D V;have Gb:=aa (V.1 _ _ Ga.out (ag _));have hn6:xg.cell? w=Ws (.func (.func 240) #[] #[]):=(Gb.out.cell (p:=w) g).trans j;clear V C)
  |(refine ev rfl (Yg 4) (Yh (WK Xr 15)) (Yg 40) 213 (.inr rfl) 3 212 (.int Xr) XI WI co c.heap.size _ rfl D 15 (Ye #[WM ⟨#[100,105,115,116,117,114,98]⟩,Yc Ww,WK Xr 0,WK Xr 0,WK Xr 1,.func (.func 238) #[] #[],Yc Ww,.func (.func 240) #[] #[]]) rfl rfl ?_;intro AB F X;have Gc:=aa (X.1 _ _ Gb.out (ag _));have hn7:AB.cell? w=Ws (.func (.func 240) #[] #[]):=(Gc.out.cell (p:=w) g).trans j;clear X D)
  |(refine ev rfl (Yg 4) (Yh (WK Xr 16)) (Yg 43) 213 (.inr rfl) 3 212 (.int Xr) XI WI co c.heap.size _ rfl F 16 (Ye #[WM ⟨#[115,105,108,101,110,99,101]⟩,Yc Ww,WK Xr 1,WK Xr 1,WK Xr 1,.func (.func 238) #[] #[],Yc Ww,.func (.func 240) #[] #[]]) rfl rfl ?_;intro Jg G Y;have DD:=aa (Y.1 _ _ Gc.out (ag _));have hn8:Jg.cell? w=Ws (.func (.func 240) #[] #[]):=(DD.out.cell (p:=w) g).trans j;clear Y F;have cy5:=aa G;clear G)
 go_ret;exact⟨_,w.heap.size,rfl,cy5.out,ag _,aq Tw.out DD.out,ai aT.out DD.out⟩
end
end Go.Proofs.YtklfdkdebgfmiaaGreatDoor
