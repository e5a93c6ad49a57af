/- A part of the proof. -/
import Derived.Test.YtklfdkdebgfmiaaGreatDoorQbi
import Derived.Test.YtklfdkdebgfmiaaGreatDoorQbj
set_option linter.defProp false
set_option linter.unusedVariables false
set_option linter.unusedSimpArgs false
set_option maxRecDepth 100000
set_option maxHeartbeats 32000000
open Option renaming none->Wr,some->Ws
open Decidable renaming decide->Wt
open Go renaming World->Wu,Value->Wv,Addr->X8
open Bool renaming false->Ww,true->Wz
open Go.RowKit renaming Hid->WA
open Go.Proofs.Tryz renaming prog->WH
open Go.Value renaming int->WK,string->WM,slice->Yb,bool->Yc,agg->Ye
open Go.Instr renaming lookup->WT
open Go.IntKind renaming i64->Xr
open Go.Obj renaming cells->Yd
namespace Go.Proofs.YtklfdkdebgfmiaaGreatDoor
section
open Go Go.RowKit Go.MapKept Go.Proofs.Tryz
def ew6 (d:au) (aw:Bool) (RA NA:Option X8) (rn rc nn nc:Nat) (w:Wu) (C: ¬(0<=(d.kind:Int)/\(d.kind:Int)<=16)):
 aQ 125 #[Ye #[d.kind,bs d.name,Yb RA rn rc,Yb NA nn nc,d.by_,Yc aw]] w (Yc Ww):=by
 have D:=aa (λpb=>ez7 pb C);have O:=aa (λW=>Z5 W);clear C;go_enter func125,ntmps125;go_upto_region 1 with (fail)
 refine bb2 ?_;intro W1 ⟨y,cS⟩;refine M4 λq0 ba cJ=> ?_;have j:=aa y;have lq:=aa cS;clear y cS;go_cut [3,4] (λp q V=>q=Yc Ww/\Below w w V)
 case first=>
  rename_i J X A z;have F:=aa A;have U:=aa z;clear A z;go_region_held3 (λw'=>w'.cell? w=Ws (WK Xr d.kind)) (go_simp)
   (first
     |(go_at_call 160;refine(O.out _).m ?_;rintro e w2 ⟨g,pb,rfl,hM,_,_,am⟩;have hF:=D.out pb;refine Iu λaV=> ?_;have kU:(Instr.lookup 213 (.map (some g)) (.int .i64 d.kind) true).run prog w2= .ok (.tuple #[.agg #[.string ⟨#[]⟩,.bool false,.int .i64 0,.int .i64 0,.int .i64 0,.nilFunc,.bool false,.nilFunc],.bool false]) w2:=by exact Z_
       have Z: ∀o,(WT 213 (.map (Ws g)) (WK Xr d.kind) Wz).run WH (w2.alloc o)= .ok (.tuple #[Ye #[WM ⟨#[]⟩,Yc Ww,WK Xr 0,WK Xr 0,WK Xr 0,.nilFunc,Yc Ww,.nilFunc],Yc Ww]) (w2.alloc o):=λo=>by exact Z'
       refine QI λc0 lJ wv=> ?_;try(have Y:W1.heap.size<w2.heap.size:=by(have I:=am.size;simp at I;omega))
       refine QJ λbd jU iW=> ?_;clear hM am))
  all_goals
   dsimp only[Exit.then];refine U.out _ _ (Met.intro (F.out _ _ ?_))
   (repeat apply Exists.intro)
   refine⟨⟨rfl,?_⟩,rfl⟩;have G:=ai j.out aV
   (repeat' first|with_reducible exact G|with_reducible refine cF ?_ (by dsimp only;have:=j.out.size;omega) _|with_reducible refine ae ?_ _)
 case rest=>
  obtain⟨rfl,hB⟩:=hcut;go_wp2_with fail
  go_ret;exact⟨rfl,hB⟩
def ew7 (d:au) (rv nv:Wv) (w:Wu) (hG:fD w) (fb ft L M N:Nat) (NM AL A:Bool) (wd:ByteArray) (eb:dp fb) (I:bG w w rv d.refs) (G:aW w w nv (d.nums.map λx:Nat=>(x:Int)))
 (hf: ∀pb,∃cap,yG pb d.kind=Ws (Ye #[wd,Yc NM,L,M,N,.func (.func fb) #[] #[],Yc AL,.func (.func ft) #[] cap])) (mf: ∀W,Below w w W->aQ fb #[d.by_] W (Yc A)) (C:(Wt (L<=d.refs.length)&&(Wt (d.refs.length<=M)&&(Wt (d.nums.length=N)&&(A&&(AL|| !d.always)))))=Ww):
 aQ 125 #[Ye #[d.kind,bs d.name,rv,nv,d.by_,Yc d.always]] w (Yc ((Wt (L<=d.refs.length)&&(Wt (d.refs.length<=M)&&(Wt (d.nums.length=N)&&(A&&((AL|| !d.always)&&(if NM then br d.name else Wt (d.name=[])))))))
  &&d.refs.all br&&d.nums.all λn=>Wt (n<=1048576))):=by
 refine aa0 λmH HF sR nx=> ?_;have O:=aa (λW (hW:Below w w W)=>Yy (R1 λs=>WM (bs s)) (R1.ab _) rv d.refs 202 #[] (jg d.refs λs=> !br s) W ((I.below hW (ag _)).more hW.size).sk (WD func202 aC rfl)
  (λj x cs F hx gA z _=>by rw[eW hx];unfold R1 at z;subst z;exact Z9 x F (hG.step (ai hW gA))))
 have X:=aa (λW (hW:Below w w W)=>Z3 (R1 (WK .i64)) (R1.ab _) nv (d.nums.map λx:Nat=>(x:Int)) 200 #[] (jg (d.nums.map λx:Nat=>(x:Int)) λn=> !Wt (n<=1048576)) W ((G.below hW (ag _)).more hW.size).sk (WD func200 aC rfl)
  (λj x cs F hx gA z _=>by rw[eW hx];unfold R1 at z;subst z;obtain⟨y,hy,rfl⟩:=List.mem_map.1 (eD hx);have h:=Z7 y F;have e:Wt (y<=1048576)=Wt ((y:Int)<=1048576):=Ol;rw[e] at h;exact h))
 simp only[BF,bm] at O X;have Z:(d.refs.any λs=> !br s)= !(d.refs.all br):=TL;have e2:((d.nums.map λx:Nat=>(x:Int)).any λn=> !Wt (n<=1048576))= !(d.nums.all λn=>Wt (n<=1048576)):=by exact aa1
 rw[Z] at O;rw[e2] at X;have xr:=aa (show(bs d.name).toList.isEmpty=Wt (d.name=[]) from by rw[jr,gI];cases d.name<;>rfl);obtain⟨RA,rn,rc,rfl,eP,_,_⟩:=I.sk.form;obtain⟨NA,nn,nc,rfl,dQ,_,_⟩:=G.sk.form;rw[WF] at dQ;rw[eP,dQ];obtain⟨b1,vK⟩: ∃b,Hid (Wt (L<=rn)=b):=⟨_,aa rfl⟩;obtain⟨b2,zb⟩: ∃b,Hid (Wt (rn<=M)=b):=⟨_,aa rfl⟩;obtain⟨b3,mM⟩: ∃b,Hid (Wt (nn=N)=b):=⟨_,aa rfl⟩;rw[eP,dQ,vK.out,zb.out,mM.out] at C;rw[vK.out,zb.out,mM.out];have D:=aa C;clear C;generalize d.always=aw at D⊢
 generalize br d.name=ni at nx;generalize Wt (d.name=[])=ne at xr;generalize d.refs.all br=ra at O;generalize (d.nums.all λn=>Wt (n<=1048576))=na at X;unfold dp at eb;clear I G hf mf Z e2 eP dQ hG;go_enter func125,ntmps125;go_upto_region 1 with (fail)
 refine bb2 ?_;intro W1 ⟨Y,cS⟩;refine M4 λq0 ba cJ=> ?_;have aT:=aa Y;have lq:=aa cS;clear Y cS;go_cut [3,4] (λp q wx=>q=Yc Wz/\∃g,p=aj g/\W1.heap.size<=g/\Below W1 W1 wx/\∃cap,wx.heap[g]? =Ws (Yd #[wd,Yc NM,L,M,N,.func (.func fb) #[] #[],Yc AL,.func (.func ft) #[] cap] 212 (0,0)))
 case first=>exact bb3
 case rest=>
  obtain⟨rfl,g,rfl,jn,aV,cap,mD⟩:=hcut;have U:=aq lq.out aV;obtain⟨up,rT,uq,ur,ut,uu⟩:=jD U;obtain⟨zl,zm,GQ,GS,GT,GU,GV,GW⟩:=PR mD;have rH:=aa (ai aT.out aV);have Kd:=aa U;have Kc:=aa mD;clear U mD aV q0;simp only[aj];cases b1 with
  |false=>
   have k1:(rn:Int)<(L:Int):=by have hq:=vK.out;simp at hq;omega
   exact aa2
  |true=>
   have k1: ¬(rn:Int)<(L:Int):=by have hq:=vK.out;simp at hq;omega
   cases b2 with
   |false=>
    have k2:(M:Int)<(rn:Int):=by have hq:=zb.out;simp at hq;omega
    exact aa2
   |true=>
    have k2: ¬(M:Int)<(rn:Int):=by have hq:=zb.out;simp at hq;omega
    cases b3 with
    |false=>
     have k3:((nn:Int)!=(N:Int))=true:=by have hq:=mM.out;simp at hq;simp;omega
     exact aa2
    |true=>
     have k3:((nn:Int)!=(N:Int))=false:=by have hq:=mM.out;simp at hq;simp;omega
     cases A with
     |false=>
      go_wp2_with first
       |(refine(sR.out _ rH.out).m ?_;rintro e w4 ⟨rfl,aS⟩;refine QK λdx jn oo mO mP=> ?_;have pF:w4.cell? (w 5 Wr)=Ws (Yc aw):=ah dx rfl;have uv:w4.cell? ⟨g,1,Wr⟩=Ws (Yc NM):=ah jn rfl;have GX:w4.cell? ⟨g,6,Wr⟩=Ws (Yc AL):=ah jn rfl;have V:=aa (ai rH.out aS);have AU:=aa dx;clear aS dx jn up rT uq ur ut uu zl zm GQ GS GT GU GV GW)
      all_goals go_ret
      all_goals exact⟨yH (by(try simp[]);(try omega)),V.out⟩
     |true=>
      cases aw with
      |false=>exact absurd D.out Yl
      |true=>
       cases AL with
       |true=>exact absurd D.out Yl
       |false=>
        go_wp2_with first
         |(refine(sR.out _ rH.out).m ?_;rintro e w4 ⟨rfl,aS⟩;refine QK λdx jn oo mO mP=> ?_;have pF:w4.cell? (w 5 Wr)=Ws (Yc Wz):=ah dx rfl;have uv:w4.cell? ⟨g,1,Wr⟩=Ws (Yc NM):=ah jn rfl;have GX:w4.cell? ⟨g,6,Wr⟩=Ws (Yc Ww):=ah jn rfl;have V:=aa (ai rH.out aS);have AU:=aa dx;clear aS dx jn up rT uq ur ut uu zl zm GQ GS GT GU GV GW)
        all_goals go_ret
        all_goals exact⟨yH (by(try simp[]);(try omega)),V.out⟩
end
end Go.Proofs.YtklfdkdebgfmiaaGreatDoor
