/-
  Texts laid together (part 4): what the statement's walk and plain law need. No condition.
-/
import Derived.Test.YtojomcdjcpmnkaaGreatZs3
set_option linter.unusedVariables false
set_option linter.unusedSimpArgs false
set_option maxRecDepth 20000
set_option maxHeartbeats 4000000
namespace Go.Proofs.YtojomcdjcpmnkaaGreat.By
open Go.RowKit L A
attribute [local irreducible] AW AQ AO
def cls (n:Int):Int:=
 if n=3∨n=7∨n=9∨n=16∨n=35∨n=39 then 2
 else if n=6∨n=14∨n=23∨n=27∨n=28∨n=60∨n=252∨n=258∨n=292 then 3 else 1
theorem h0K (n:Int):Sp Tryz.prog 154 [.val (.int .i64 n)] [] (Is (.val (.int .i64 (cls n)))):=by
 refine yN Tryz.func154 _ Tryz.ntmps154 (fun w0 R0=> ?_)
 refine zD (zr ?_)
 refine zc (zI (zo (zD (zD (zr ?_)))))
 refine zb (zI (zo (xj (zD (zD (zr ?_))))))
 refine z9 ?_
 refine zc (zI (zo ?_))
 refine xU [(3,_)] (fun E H=> ∃(c40:Bool),(c40=decide (n=3∨n=7∨n=9∨n=16∨n=35∨n=39))∧E= [(4,.val (.bool c40))]∧H= []) (fun h40=> ?_) (fun h40=> ?_) ?_<;>try(try simp only[vX]at h40)
 ·refine yX ?_
  refine yx _ _ (⟨n==3,by simp[h40],rfl,rfl⟩)
 ·refine zD (zr ?_)
  refine z9 ?_
  refine zc (zI (zo ?_))
  refine xU [(3,_)] (fun E H=> ∃(c41:Bool),(c41=decide (n=7∨n=9∨n=16∨n=35∨n=39))∧E= [(4,.val (.bool c41))]∧H= []) (fun h41=> ?_) (fun h41=> ?_) ?_<;>try(try simp only[vX]at h41)
  ·refine yX ?_
   refine yx _ _ (⟨n==7,by simp[h41],rfl,rfl⟩)
  ·refine zD (zr ?_)
   refine z9 ?_
   refine zc (zI (zo ?_))
   refine xU [(3,_)] (fun E H=> ∃(c42:Bool),(c42=decide (n=9∨n=16∨n=35∨n=39))∧E= [(4,.val (.bool c42))]∧H= []) (fun h42=> ?_) (fun h42=> ?_) ?_<;>try(try simp only[vX]at h42)
   ·refine yX ?_
    refine yx _ _ (⟨n==9,by simp[h42],rfl,rfl⟩)
   ·refine zD (zr ?_)
    refine z9 ?_
    refine zc (zI (zo ?_))
    refine xU [(3,_)] (fun E H=> ∃(c43:Bool),(c43=decide (n=16∨n=35∨n=39))∧E= [(4,.val (.bool c43))]∧H= []) (fun h43=> ?_) (fun h43=> ?_) ?_<;>try(try simp only[vX]at h43)
    ·refine yX ?_
     refine yx _ _ (⟨n==16,by simp[h43],rfl,rfl⟩)
    ·refine zD (zr ?_)
     refine z9 ?_
     refine zc (zI (zo ?_))
     refine xU [(3,_)] (fun E H=> ∃(c44:Bool),(c44=decide (n=35∨n=39))∧E= [(4,.val (.bool c44))]∧H= []) (fun h44=> ?_) (fun h44=> ?_) ?_<;>try(try simp only[vX]at h44)
     ·refine yX ?_
      refine yx _ _ (⟨n==35,by simp[h44],rfl,rfl⟩)
     ·refine zr ?_
      refine z9 ?_
      refine zc (zI ?_)
      refine yx _ _ (⟨n==39,by rw[Bool.eq_iff_iff];simp[h44],rfl,rfl⟩)
     rintro E1 H1 ⟨c44,hc44,rfl,rfl⟩
     dsimp only[cA,cN]
     refine yx _ _ (⟨c44,by rw[hc44];simp only[h43,false_or],rfl,rfl⟩)
    rintro E1 H1 ⟨c43,hc43,rfl,rfl⟩
    dsimp only[cA,cN]
    refine yx _ _ (⟨c43,by rw[hc43];simp only[h42,false_or],rfl,rfl⟩)
   rintro E1 H1 ⟨c42,hc42,rfl,rfl⟩
   dsimp only[cA,cN]
   refine yx _ _ (⟨c42,by rw[hc42];simp only[h41,false_or],rfl,rfl⟩)
  rintro E1 H1 ⟨c41,hc41,rfl,rfl⟩
  dsimp only[cA,cN]
  refine yx _ _ (⟨c41,by rw[hc41];simp only[h40,false_or],rfl,rfl⟩)
 rintro E1 H1 ⟨c40,hc40,rfl,rfl⟩
 dsimp only[cA,cN]
 refine zo ?_
 refine yk (fun ha=> ?_) (fun ha=> ?_)<;>(try simp only[vX]at ha)
 ·rw[hc40]at ha
  have e:cls n=2:=if_pos (by simpa using ha)
  refine zD (zr ?_)
  refine zc (zI (zo (xc ?_)))
  refine wi (xr ?_)
  refine vu rfl rfl nS (⟨by rw[e];rfl,rfl⟩)
 rw[hc40]at ha
 refine zD (zD (zr ?_))
 refine z9 ?_
 refine zc (zI (zo ?_))
 refine ve [] (fun E H=> ∃(c110:Bool),(c110=decide (n=6∨n=14∨n=23∨n=27∨n=28∨n=60∨n=252∨n=258∨n=292))∧E= [(11,.val (.bool c110))]∧H= []) (fun h110=> ?_) (fun h110=> ?_) ?_<;>try(try simp only[vX]at h110)
 ·refine yX ?_
  refine yd _ _ (⟨n==6,by simp[h110],rfl,rfl⟩)
 ·refine zD (zr ?_)
  refine z9 ?_
  refine zc (zI (zo ?_))
  refine ve [] (fun E H=> ∃(c111:Bool),(c111=decide (n=14∨n=23∨n=27∨n=28∨n=60∨n=252∨n=258∨n=292))∧E= [(11,.val (.bool c111))]∧H= []) (fun h111=> ?_) (fun h111=> ?_) ?_<;>try(try simp only[vX]at h111)
  ·refine yX ?_
   refine yd _ _ (⟨n==14,by simp[h111],rfl,rfl⟩)
  ·refine zD (zr ?_)
   refine z9 ?_
   refine zc (zI (zo ?_))
   refine ve [] (fun E H=> ∃(c112:Bool),(c112=decide (n=23∨n=27∨n=28∨n=60∨n=252∨n=258∨n=292))∧E= [(11,.val (.bool c112))]∧H= []) (fun h112=> ?_) (fun h112=> ?_) ?_<;>try(try simp only[vX]at h112)
   ·refine yX ?_
    refine yd _ _ (⟨n==23,by simp[h112],rfl,rfl⟩)
   ·refine zD (zr ?_)
    refine z9 ?_
    refine zc (zI (zo ?_))
    refine ve [] (fun E H=> ∃(c113:Bool),(c113=decide (n=27∨n=28∨n=60∨n=252∨n=258∨n=292))∧E= [(11,.val (.bool c113))]∧H= []) (fun h113=> ?_) (fun h113=> ?_) ?_<;>try(try simp only[vX]at h113)
    ·refine yX ?_
     refine yd _ _ (⟨n==27,by simp[h113],rfl,rfl⟩)
    ·refine zD (zr ?_)
     refine z9 ?_
     refine zc (zI (zo ?_))
     refine ve [] (fun E H=> ∃(c114:Bool),(c114=decide (n=28∨n=60∨n=252∨n=258∨n=292))∧E= [(11,.val (.bool c114))]∧H= []) (fun h114=> ?_) (fun h114=> ?_) ?_<;>try(try simp only[vX]at h114)
     ·refine yX ?_
      refine yd _ _ (⟨n==28,by simp[h114],rfl,rfl⟩)
     ·refine zD (zr ?_)
      refine z9 ?_
      refine zc (zI (zo ?_))
      refine ve [] (fun E H=> ∃(c115:Bool),(c115=decide (n=60∨n=252∨n=258∨n=292))∧E= [(11,.val (.bool c115))]∧H= []) (fun h115=> ?_) (fun h115=> ?_) ?_<;>try(try simp only[vX]at h115)
      ·refine yX ?_
       refine yd _ _ (⟨n==60,by simp[h115],rfl,rfl⟩)
      ·refine zD (zr ?_)
       refine z9 ?_
       refine zc (zI (zo ?_))
       refine ve [] (fun E H=> ∃(c116:Bool),(c116=decide (n=252∨n=258∨n=292))∧E= [(11,.val (.bool c116))]∧H= []) (fun h116=> ?_) (fun h116=> ?_) ?_<;>try(try simp only[vX]at h116)
       ·refine yX ?_
        refine yd _ _ (⟨n==252,by simp[h116],rfl,rfl⟩)
       ·refine zD (zr ?_)
        refine z9 ?_
        refine zc (zI (zo ?_))
        refine ve [] (fun E H=> ∃(c117:Bool),(c117=decide (n=258∨n=292))∧E= [(11,.val (.bool c117))]∧H= []) (fun h117=> ?_) (fun h117=> ?_) ?_<;>try(try simp only[vX]at h117)
        ·refine yX ?_
         refine yd _ _ (⟨n==258,by simp[h117],rfl,rfl⟩)
        ·refine zr ?_
         refine z9 ?_
         refine zc (zI ?_)
         refine yd _ _ (⟨n==292,by rw[Bool.eq_iff_iff];simp[h117],rfl,rfl⟩)
        rintro E1 H1 ⟨c117,hc117,rfl,rfl⟩
        dsimp only[cA,cN]
        refine yd _ _ (⟨c117,by rw[hc117];simp only[h116,false_or],rfl,rfl⟩)
       rintro E1 H1 ⟨c116,hc116,rfl,rfl⟩
       dsimp only[cA,cN]
       refine yd _ _ (⟨c116,by rw[hc116];simp only[h115,false_or],rfl,rfl⟩)
      rintro E1 H1 ⟨c115,hc115,rfl,rfl⟩
      dsimp only[cA,cN]
      refine yd _ _ (⟨c115,by rw[hc115];simp only[h114,false_or],rfl,rfl⟩)
     rintro E1 H1 ⟨c114,hc114,rfl,rfl⟩
     dsimp only[cA,cN]
     refine yd _ _ (⟨c114,by rw[hc114];simp only[h113,false_or],rfl,rfl⟩)
    rintro E1 H1 ⟨c113,hc113,rfl,rfl⟩
    dsimp only[cA,cN]
    refine yd _ _ (⟨c113,by rw[hc113];simp only[h112,false_or],rfl,rfl⟩)
   rintro E1 H1 ⟨c112,hc112,rfl,rfl⟩
   dsimp only[cA,cN]
   refine yd _ _ (⟨c112,by rw[hc112];simp only[h111,false_or],rfl,rfl⟩)
  rintro E1 H1 ⟨c111,hc111,rfl,rfl⟩
  dsimp only[cA,cN]
  refine yd _ _ (⟨c111,by rw[hc111];simp only[h110,false_or],rfl,rfl⟩)
 rintro E1 H1 ⟨c110,hc110,rfl,rfl⟩
 dsimp only[cA,cN]
 refine zo ?_
 refine yk (fun hb=> ?_) (fun hb=> ?_)<;>(try simp only[vX]at hb)
 ·rw[hc110]at hb
  have e:cls n=3:=(if_neg (by simpa using ha)).trans (if_pos (by simpa using hb))
  refine zD (zr ?_)
  refine zc (zI (zo (xc ?_)))
  refine wi (xr ?_)
  refine vu rfl rfl nS (⟨by rw[e];rfl,rfl⟩)
 rw[hc110]at hb
 have e:cls n=1:=(if_neg (by simpa using ha)).trans (if_neg (by simpa using hb))
 refine yX (xz (zo (zD (zr ?_))))
 refine zc (zI (zo (xc ?_)))
 refine vu rfl rfl nS (⟨by rw[e];rfl,rfl⟩)
theorem f0z (n:Int):Sp Tryz.prog 121 [.val (.int .i64 n)] [] (Is (.val (.int .i64 (cls n)))):=by
 refine yN Tryz.func121 _ Tryz.ntmps121 (fun w0 R0=> ?_)
 refine zD (zr ?_)
 refine zc (zI (zo (zD (zD (zr ?_)))))
 refine zb (zI (zo (xj (zD (zD (zr ?_))))))
 refine z9 ?_
 refine zc (zI (zo ?_))
 refine xU [(3,_)] (fun E H=> ∃(c40:Bool),(c40=decide (n=3∨n=7∨n=9∨n=16∨n=35∨n=39))∧E= [(4,.val (.bool c40))]∧H= []) (fun h40=> ?_) (fun h40=> ?_) ?_<;>try(try simp only[vX]at h40)
 ·refine yX ?_
  refine yx _ _ (⟨n==3,by simp[h40],rfl,rfl⟩)
 ·refine zD (zr ?_)
  refine z9 ?_
  refine zc (zI (zo ?_))
  refine xU [(3,_)] (fun E H=> ∃(c41:Bool),(c41=decide (n=7∨n=9∨n=16∨n=35∨n=39))∧E= [(4,.val (.bool c41))]∧H= []) (fun h41=> ?_) (fun h41=> ?_) ?_<;>try(try simp only[vX]at h41)
  ·refine yX ?_
   refine yx _ _ (⟨n==7,by simp[h41],rfl,rfl⟩)
  ·refine zD (zr ?_)
   refine z9 ?_
   refine zc (zI (zo ?_))
   refine xU [(3,_)] (fun E H=> ∃(c42:Bool),(c42=decide (n=9∨n=16∨n=35∨n=39))∧E= [(4,.val (.bool c42))]∧H= []) (fun h42=> ?_) (fun h42=> ?_) ?_<;>try(try simp only[vX]at h42)
   ·refine yX ?_
    refine yx _ _ (⟨n==9,by simp[h42],rfl,rfl⟩)
   ·refine zD (zr ?_)
    refine z9 ?_
    refine zc (zI (zo ?_))
    refine xU [(3,_)] (fun E H=> ∃(c43:Bool),(c43=decide (n=16∨n=35∨n=39))∧E= [(4,.val (.bool c43))]∧H= []) (fun h43=> ?_) (fun h43=> ?_) ?_<;>try(try simp only[vX]at h43)
    ·refine yX ?_
     refine yx _ _ (⟨n==16,by simp[h43],rfl,rfl⟩)
    ·refine zD (zr ?_)
     refine z9 ?_
     refine zc (zI (zo ?_))
     refine xU [(3,_)] (fun E H=> ∃(c44:Bool),(c44=decide (n=35∨n=39))∧E= [(4,.val (.bool c44))]∧H= []) (fun h44=> ?_) (fun h44=> ?_) ?_<;>try(try simp only[vX]at h44)
     ·refine yX ?_
      refine yx _ _ (⟨n==35,by simp[h44],rfl,rfl⟩)
     ·refine zr ?_
      refine z9 ?_
      refine zc (zI ?_)
      refine yx _ _ (⟨n==39,by rw[Bool.eq_iff_iff];simp[h44],rfl,rfl⟩)
     rintro E1 H1 ⟨c44,hc44,rfl,rfl⟩
     dsimp only[cA,cN]
     refine yx _ _ (⟨c44,by rw[hc44];simp only[h43,false_or],rfl,rfl⟩)
    rintro E1 H1 ⟨c43,hc43,rfl,rfl⟩
    dsimp only[cA,cN]
    refine yx _ _ (⟨c43,by rw[hc43];simp only[h42,false_or],rfl,rfl⟩)
   rintro E1 H1 ⟨c42,hc42,rfl,rfl⟩
   dsimp only[cA,cN]
   refine yx _ _ (⟨c42,by rw[hc42];simp only[h41,false_or],rfl,rfl⟩)
  rintro E1 H1 ⟨c41,hc41,rfl,rfl⟩
  dsimp only[cA,cN]
  refine yx _ _ (⟨c41,by rw[hc41];simp only[h40,false_or],rfl,rfl⟩)
 rintro E1 H1 ⟨c40,hc40,rfl,rfl⟩
 dsimp only[cA,cN]
 refine zo ?_
 refine yk (fun ha=> ?_) (fun ha=> ?_)<;>(try simp only[vX]at ha)
 ·rw[hc40]at ha
  have e:cls n=2:=if_pos (by simpa using ha)
  refine zD (zr ?_)
  refine zc (zI (zo (xc ?_)))
  refine wi (xr ?_)
  refine vu rfl rfl nS (⟨by rw[e];rfl,rfl⟩)
 rw[hc40]at ha
 refine zD (zD (zr ?_))
 refine z9 ?_
 refine zc (zI (zo ?_))
 refine ve [] (fun E H=> ∃(c110:Bool),(c110=decide (n=6∨n=14∨n=23∨n=27∨n=28∨n=60∨n=252∨n=258∨n=292))∧E= [(11,.val (.bool c110))]∧H= []) (fun h110=> ?_) (fun h110=> ?_) ?_<;>try(try simp only[vX]at h110)
 ·refine yX ?_
  refine yd _ _ (⟨n==6,by simp[h110],rfl,rfl⟩)
 ·refine zD (zr ?_)
  refine z9 ?_
  refine zc (zI (zo ?_))
  refine ve [] (fun E H=> ∃(c111:Bool),(c111=decide (n=14∨n=23∨n=27∨n=28∨n=60∨n=252∨n=258∨n=292))∧E= [(11,.val (.bool c111))]∧H= []) (fun h111=> ?_) (fun h111=> ?_) ?_<;>try(try simp only[vX]at h111)
  ·refine yX ?_
   refine yd _ _ (⟨n==14,by simp[h111],rfl,rfl⟩)
  ·refine zD (zr ?_)
   refine z9 ?_
   refine zc (zI (zo ?_))
   refine ve [] (fun E H=> ∃(c112:Bool),(c112=decide (n=23∨n=27∨n=28∨n=60∨n=252∨n=258∨n=292))∧E= [(11,.val (.bool c112))]∧H= []) (fun h112=> ?_) (fun h112=> ?_) ?_<;>try(try simp only[vX]at h112)
   ·refine yX ?_
    refine yd _ _ (⟨n==23,by simp[h112],rfl,rfl⟩)
   ·refine zD (zr ?_)
    refine z9 ?_
    refine zc (zI (zo ?_))
    refine ve [] (fun E H=> ∃(c113:Bool),(c113=decide (n=27∨n=28∨n=60∨n=252∨n=258∨n=292))∧E= [(11,.val (.bool c113))]∧H= []) (fun h113=> ?_) (fun h113=> ?_) ?_<;>try(try simp only[vX]at h113)
    ·refine yX ?_
     refine yd _ _ (⟨n==27,by simp[h113],rfl,rfl⟩)
    ·refine zD (zr ?_)
     refine z9 ?_
     refine zc (zI (zo ?_))
     refine ve [] (fun E H=> ∃(c114:Bool),(c114=decide (n=28∨n=60∨n=252∨n=258∨n=292))∧E= [(11,.val (.bool c114))]∧H= []) (fun h114=> ?_) (fun h114=> ?_) ?_<;>try(try simp only[vX]at h114)
     ·refine yX ?_
      refine yd _ _ (⟨n==28,by simp[h114],rfl,rfl⟩)
     ·refine zD (zr ?_)
      refine z9 ?_
      refine zc (zI (zo ?_))
      refine ve [] (fun E H=> ∃(c115:Bool),(c115=decide (n=60∨n=252∨n=258∨n=292))∧E= [(11,.val (.bool c115))]∧H= []) (fun h115=> ?_) (fun h115=> ?_) ?_<;>try(try simp only[vX]at h115)
      ·refine yX ?_
       refine yd _ _ (⟨n==60,by simp[h115],rfl,rfl⟩)
      ·refine zD (zr ?_)
       refine z9 ?_
       refine zc (zI (zo ?_))
       refine ve [] (fun E H=> ∃(c116:Bool),(c116=decide (n=252∨n=258∨n=292))∧E= [(11,.val (.bool c116))]∧H= []) (fun h116=> ?_) (fun h116=> ?_) ?_<;>try(try simp only[vX]at h116)
       ·refine yX ?_
        refine yd _ _ (⟨n==252,by simp[h116],rfl,rfl⟩)
       ·refine zD (zr ?_)
        refine z9 ?_
        refine zc (zI (zo ?_))
        refine ve [] (fun E H=> ∃(c117:Bool),(c117=decide (n=258∨n=292))∧E= [(11,.val (.bool c117))]∧H= []) (fun h117=> ?_) (fun h117=> ?_) ?_<;>try(try simp only[vX]at h117)
        ·refine yX ?_
         refine yd _ _ (⟨n==258,by simp[h117],rfl,rfl⟩)
        ·refine zr ?_
         refine z9 ?_
         refine zc (zI ?_)
         refine yd _ _ (⟨n==292,by rw[Bool.eq_iff_iff];simp[h117],rfl,rfl⟩)
        rintro E1 H1 ⟨c117,hc117,rfl,rfl⟩
        dsimp only[cA,cN]
        refine yd _ _ (⟨c117,by rw[hc117];simp only[h116,false_or],rfl,rfl⟩)
       rintro E1 H1 ⟨c116,hc116,rfl,rfl⟩
       dsimp only[cA,cN]
       refine yd _ _ (⟨c116,by rw[hc116];simp only[h115,false_or],rfl,rfl⟩)
      rintro E1 H1 ⟨c115,hc115,rfl,rfl⟩
      dsimp only[cA,cN]
      refine yd _ _ (⟨c115,by rw[hc115];simp only[h114,false_or],rfl,rfl⟩)
     rintro E1 H1 ⟨c114,hc114,rfl,rfl⟩
     dsimp only[cA,cN]
     refine yd _ _ (⟨c114,by rw[hc114];simp only[h113,false_or],rfl,rfl⟩)
    rintro E1 H1 ⟨c113,hc113,rfl,rfl⟩
    dsimp only[cA,cN]
    refine yd _ _ (⟨c113,by rw[hc113];simp only[h112,false_or],rfl,rfl⟩)
   rintro E1 H1 ⟨c112,hc112,rfl,rfl⟩
   dsimp only[cA,cN]
   refine yd _ _ (⟨c112,by rw[hc112];simp only[h111,false_or],rfl,rfl⟩)
  rintro E1 H1 ⟨c111,hc111,rfl,rfl⟩
  dsimp only[cA,cN]
  refine yd _ _ (⟨c111,by rw[hc111];simp only[h110,false_or],rfl,rfl⟩)
 rintro E1 H1 ⟨c110,hc110,rfl,rfl⟩
 dsimp only[cA,cN]
 refine zo ?_
 refine yk (fun hb=> ?_) (fun hb=> ?_)<;>(try simp only[vX]at hb)
 ·rw[hc110]at hb
  have e:cls n=3:=(if_neg (by simpa using ha)).trans (if_pos (by simpa using hb))
  refine zD (zr ?_)
  refine zc (zI (zo (xc ?_)))
  refine wi (xr ?_)
  refine vu rfl rfl nS (⟨by rw[e];rfl,rfl⟩)
 rw[hc110]at hb
 have e:cls n=1:=(if_neg (by simpa using ha)).trans (if_neg (by simpa using hb))
 refine yX (xz (zo (zD (zr ?_))))
 refine zc (zI (zo (xc ?_)))
 refine vu rfl rfl nS (⟨by rw[e];rfl,rfl⟩)
def rq (c:Int):Bool:=decide (1≤c)&&decide (c≤31)
def rs (c:Int):Bool:=decide (64≤c)
theorem c0R (c:Int):Sp Tryz.prog 152 [.val (.int .i64 c)] [] (Is (.val (.bool (rq c)))):=by
 refine yN Tryz.func152 _ Tryz.ntmps152 (fun w0 R0=> ?_)
 refine zD (zr ?_)
 refine zc (zI (zo (zD (zr ?_))))
 refine zb ?_
 refine ww ?_
 refine zb ?_
 refine yt ?_
 refine xF 6 ?_
 refine zV ?_
 refine zc (zI (zo (xc ?_)))
 refine yE
theorem b0O (c:Int):Sp Tryz.prog 63 [.val (.int .i64 c)] [] (Is (.val (.bool (rq c)))):=by
 refine yN Tryz.func63 _ Tryz.ntmps63 (fun w0 R0=> ?_)
 refine zD (zr ?_)
 refine zc (zI (zo (zD (zr ?_))))
 refine zb ?_
 refine ww ?_
 refine zb ?_
 refine yt ?_
 refine xF 6 ?_
 refine zV ?_
 refine zc (zI (zo (xc ?_)))
 refine yE
theorem c0w (c:Int):Sp Tryz.prog 153 [.val (.int .i64 c)] [] (Is (.val (.bool (rs c)))):=by
 refine yN Tryz.func153 _ Tryz.ntmps153 (fun w0 R0=> ?_)
 refine zD (zr ?_)
 refine zc (zI (zo (zD (zr ?_))))
 refine zb ?_
 refine ww ?_
 refine zc (zI (zo (xc ?_)))
 refine yE
theorem b0H (c:Int):Sp Tryz.prog 83 [.val (.int .i64 c)] [] (Is (.val (.bool (rs c)))):=by
 refine yN Tryz.func83 _ Tryz.ntmps83 (fun w0 R0=> ?_)
 refine zD (zr ?_)
 refine zc (zI (zo (zD (zr ?_))))
 refine zb ?_
 refine ww ?_
 refine zc (zI (zo (xc ?_)))
 refine yE
theorem d0Y (o:Opt)(h:o.val.length≤140737488355328):Sp Tryz.prog 155 [v0V o] [] (Is (v0V o)):=by
 refine yN Tryz.func155 _ Tryz.ntmps155 (fun w0 R0=> ?_)
 refine zD (zr ?_)
 refine ye ?_
 intro B1
 refine yg ?_
 intro B2
 refine zI (zo (zD ?_))
 refine yw 5 ?_
 simp only[cT,cZ,cD,cO]
 refine yr ?_
 refine zL ?_
 refine yr ?_
 refine zL ?_
 refine x9 ?_
 refine wZ ?_
 simp only[a0f,cN,cA,cP]
 rintro _ _ ⟨V3,rfl,hV3,rfl⟩
 simp only[cA,cN]
 refine AO.g ?_
 refine yH 0 [7] ?_
 refine AO.u ?_
 dsimp only[List.map,List.eraseIdx,cA,cN]
 refine zN ?_
 refine zp 0 (zI (zo (xc ?_)))
 refine AQ.retCell rfl rfl (by repeat(exact List.Mem.head _)) (by rfl) rfl nS (⟨rfl,rfl⟩)
theorem q0w (n:Int):1≤cls n∧cls n≤3:=by unfold cls;(repeat' split)<;>omega
def inO (c:Int)(o:Opt):Opt:=if o.num=6∧rs c=true then⟨o.num,[]⟩else o
def inL (c:Int)(os:List Opt):List Opt:=(os.filter fun o=>decide (cls o.num≠2)).map (inO c)
def e0t (os:List Opt):List Opt:=os.filter fun o=>decide (cls o.num=2∨o.num=6)
def c0P (os:List Opt):Bool:=os.any fun o=>decide (o.num=6)
def o0c (os:List Opt):Bool:=os.any fun o=>decide (o.num=9∨o.num=35)
theorem k0L (c:Int)(os:List Opt)(o:Opt):inL c (os++[o])=if cls o.num≠2 then inL c os++[inO c o]else inL c os:=by
 unfold inL
 rw[List.filter_append,List.map_append]
 by_cases h:cls o.num=2<;>simp[h]
theorem i0p (os:List Opt)(o:Opt):e0t (os++[o])=if cls o.num=2∨o.num=6 then e0t os++[o]else e0t os:=by
 unfold e0t
 rw[List.filter_append]
 by_cases h:cls o.num=2∨o.num=6<;>simp[h]
theorem f0o (os:List Opt)(o:Opt):c0P (os++[o])=(c0P os||decide (o.num=6)):=by simp[c0P]
theorem i0U (os:List Opt)(o:Opt):o0c (os++[o])=(o0c os||decide (o.num=9∨o.num=35)):=by simp[o0c]
theorem n0A (c:Int)(os:List Opt):(inL c os).length≤os.length:=by rw[inL,List.length_map];exact List.length_filter_le _ _
theorem h0t (os:List Opt):(e0t os).length≤os.length:=List.length_filter_le _ _
def i0r (m:Msg):Int:=if rq m.code=true then(if c0P m.opts=true then 5 else 2)else(if c0P m.opts=true then 69 else 68)
def inM (m:Msg):Msg:=⟨0,m.code,0,[],inL m.code m.opts,m.pay⟩
def n0h (m:Msg):Msg:=⟨m.ty,i0r m,m.id,m.tok,e0t m.opts,[]⟩
def a0u (m:Msg):Msg×Msg×Int:=
 if ValM m∧(rq m.code=true∨rs m.code=true)then(if o0c m.opts=true then(Msg.none,Msg.none,15)else(inM m,n0h m,0))else(Msg.none,Msg.none,1)
abbrev u0Q (r:Msg×Msg×Int):AV:= .tup [a0U r.1,a0U r.2.1,.val (.int .i64 r.2.2)]
theorem e0r {m a b:Msg}{e:Int}(h:a0u m=(a,b,e)):Is (u0Q (a0u m)) (.tup [a0U a,a0U b,.val (.int .i64 e)]) []:=by rw[h];exact⟨rfl,rfl⟩
theorem ValM.sm {m:Msg}(h:ValM m):m.tok.length≤8∧m.pay.length≤4096∧m.opts.length≤32∧ ∀k,k<m.opts.length→(oat m.opts k).val.length≤1034:=by
 obtain⟨⟨-,h2,h3, -, -,h6⟩, -⟩:=h
 exact⟨by omega,by omega,by omega,fun k hk=>by have:=(d0d h3 hk).2.2;omega⟩
set_option maxHeartbeats 8000000 in
theorem o0y (m:Msg):Sp Tryz.prog 114 [a0U m] [] (Is (u0Q (a0u m))):=by
 have bT: ∀{b:Bool},b=true→rq m.code=b→True:=fun _ _=>trivial
 refine yN Tryz.func114 _ Tryz.ntmps114 (fun w0 R0=> ?_)
 refine zD (zr ?_)
 refine ye ?_
 intro B1
 refine zd ?_
 intro B2
 refine zd ?_
 intro B3
 refine zc (zI (zo (zD (zD (zr ?_)))))
 refine zC ?_
 refine vT (xH rfl Tryz.func119 rfl rfl rfl (n0K m)) ?_
 refine zb ?_
 refine zO ?_
 refine zO ?_
 refine zc ?_
 refine zc (zI (zo (zD (zr ?_))))
 refine zb ?_
 refine y1 ?_
 refine zb ?_
 refine zM ?_
 refine zX 22 ?_
 refine AO.opG rfl rfl rfl (fun hp=>wW 23 rfl (by exact hp) (xH rfl Tryz.func152 rfl rfl rfl (c0R m.code))) ?_
 refine yZ 24 ?_
 refine wP 25 ?_
 refine zM ?_
 refine zX 27 ?_
 refine AO.opG rfl rfl rfl (fun hp=>wW 28 rfl (by exact hp) (xH rfl Tryz.func153 rfl rfl rfl (c0w m.code))) ?_
 refine yZ 29 ?_
 refine va 26 ?_
 refine zE (zI (zo ?_))
 refine yk (fun h=> ?_) (fun h=> ?_)<;>(try simp only[vX]at h)
 ·have e:a0u m=(Msg.none,Msg.none,1):=if_neg (by
   rintro⟨hv,hc⟩
   rw[g0S hv]at h
   simp at h
   simp[h.1,h.2]at hc)
  refine zD (zr ?_)
  refine zN ?_
  refine zN ?_
  refine za 1 ?_
  refine za 0 ?_
  refine zc (zI (zo (xc (xr ?_))))
  refine x8 y7 zj (e0r e)
 have hv:ValM m:=Classical.byContradiction fun hv=>by rw[g0T hv]at h;simp at h
 have hc:rq m.code=true∨rs m.code=true:=by rw[g0S hv]at h;simp at h;cases hq:rq m.code<;>simp_all
 obtain⟨s1,s2,s3,s4⟩:=hv.sm
 refine yX (zo (zD ?_))
 refine yw 7 ?_
 simp only[cT,cZ,cD,cO]
 refine yr ?_
 refine zL ?_
 refine yr ?_
 refine zL ?_
 refine xZ ?_
 refine xQ ?_
 refine yV ?_
 refine wZ ?_
 simp only[a0f,cN,cA,cP]
 rintro _ _ ⟨B4,rfl,rfl⟩
 simp only[cA,cN]
 refine za 0 (zI (zo (zD ?_)))
 refine yw 9 ?_
 simp only[cT,cZ,cD,cO]
 refine yr ?_
 refine zL ?_
 refine yr ?_
 refine zL ?_
 refine yr ?_
 refine zL ?_
 refine xZ ?_
 refine xQ ?_
 refine yV ?_
 refine wZ ?_
 simp only[a0f,cN,cA,cP]
 rintro _ _ ⟨B5,rfl,rfl⟩
 simp only[cA,cN]
 refine za 0 (zI (zo (zD (zr ?_))))
 refine zc (zI (zo (zD (zD (zr ?_)))))
 refine zt ?_
 refine zn ?_
 refine zW ?_
 refine zb (zI (zo (xj ?_)))
 refine AW.g ?_
 refine G.nilRow 96 2 ?_
 refine AW.u ?_
 refine AW.g ?_
 refine G.nilRow 96 2 ?_
 refine AW.u ?_
 refine xK [(1,_),(2,_),(3,_),(7,_),(8,_),(50,_),(51,_)] (fun nn E H=> ∃(k:Nat) (V V':Value),(k≤m.opts.length)∧(V.oneCell'=true)∧(V'.oneCell'=true)∧(o0c (m.opts.take k)=false)∧nn=m.opts.length-k∧E= [(9,.val (.bool (c0P (m.opts.take k)))),(52,.val (.int .i64 (k:Int)))]∧H= [.row V 96 2 (inL m.code (m.opts.take k)).length (a0x (inL m.code (m.opts.take k))),.row V' 96 2 (e0t (m.opts.take k)).length (a0x (e0t (m.opts.take k))),.blk B4 29 6 [.val (.int .i64 0),.val (.int .i64 m.code),.val (.int .i64 0),.val (.slice none 0 0),.val V,roB m.pay],.blk B5 29 6 [.val (.int .i64 m.ty),.val (.int .i64 0),.val (.int .i64 m.id),roB m.tok,.val V',.val (.slice none 0 0)],.blk B3 29 6 [.val (.int .i64 0),.val (.int .i64 0),.val (.int .i64 0),.val (.slice none 0 0),.val (.slice none 0 0),.val (.slice none 0 0)],.blk B2 29 6 [.val (.int .i64 0),.val (.int .i64 0),.val (.int .i64 0),.val (.slice none 0 0),.val (.slice none 0 0),.val (.slice none 0 0)],.blk B1 29 6 [.val (.int .i64 m.ty),.val (.int .i64 m.code),.val (.int .i64 m.id),roB m.tok,roO m.opts,roB m.pay]]) _ (⟨0,_,_,by omega,rfl,rfl,rfl,rfl,rfl,rfl⟩) ?_
 rintro nn E H ⟨k,V,V',hk,hV,hV',hb,rfl,rfl,rfl⟩
 dsimp only[cA,cN]
 have hl1:=n0A m.code (m.opts.take k)
 have hl2:=h0t (m.opts.take k)
 rw[List.length_take]at hl1 hl2
 refine zD (zr ?_)
 refine zP (zI (zo (zD ?_)))
 refine yk (fun h2=> ?_) (fun h2=> ?_)<;>(try simp only[vX]at h2)
 ·have hkk:k<m.opts.length:=by omega
  have hv4:(oat m.opts k).val.length≤140737488355328:=by have:=s4 k hkk;omega
  have hci:=q0w (oat m.opts k).num
  refine yX (zo (zD (xj (zD (zr ?_)))))
  refine z8 ?_
  refine yU ?_
  refine zd ?_
  intro B6
  refine za 0 (zI (zo (zD (zD (zr ?_)))))
  refine zt ?_
  refine zy ?_
  refine z9 ?_
  refine zb ?_
  refine zM ?_
  refine zv 60 ?_
  refine y8 61 ?_
  refine zE (zI (zo ?_))
  refine yk (fun h3=> ?_) (fun h3=> ?_)<;>(try simp only[vX]at h3)
  ·have e:a0u m=(Msg.none,Msg.none,15):=by
    rw[a0u,if_pos ⟨hv,hc⟩,if_pos]
    exact List.any_eq_true.2 ⟨oat m.opts k,b0f _ hkk,by simpa using h3⟩
   refine zD (zr ?_)
   refine zN ?_
   refine zN ?_
   refine za 6 ?_
   refine za 5 ?_
   refine zc (zI (zo (xc (xr ?_))))
   refine wi (xr ?_)
   refine AQ.loopR ?_
   refine wi (xr ?_)
   refine x8 xP zj (e0r e)
  refine yX (zo (zD (zr ?_)))
  refine zt ?_
  refine zy ?_
  refine vT (xH rfl Tryz.func154 rfl rfl rfl (h0K _)) ?_
  refine zc (zI (zo (zD (zD (zr ?_)))))
  refine zb ?_
  refine vT (O.and_ rfl rfl rfl (u0g 1 (by decide) (by decide) (m:=2) (by decide) (by omega))) ?_
  refine y1 (zI (zo ?_))
  have hb':o0c (m.opts.take (k+1))=false:=by rw[a0g Opt.none hkk,i0U,hb,Bool.false_or];exact decide_eq_false (fun hx=>hx.elim h3.1 h3.2)
  have hw':c0P (m.opts.take (k+1))=(c0P (m.opts.take k)||decide ((oat m.opts k).num=6)):=by rw[a0g Opt.none hkk,f0o]
  have hin:=k0L m.code (m.opts.take k) (oat m.opts k)
  have hou:=i0p (m.opts.take k) (oat m.opts k)
  rw[←a0g Opt.none hkk]at hin hou
  refine xU [(1,_),(2,_),(3,_),(7,_),(8,_),(9,_),(11,_),(12,_),(50,_),(51,_),(52,_)] (fun E H=> ∃(W:Value),(W.oneCell'=true)∧E= []∧H= [.blk B6 96 2 [.val (.int .i64 (oat m.opts k).num),roB (oat m.opts k).val],.row W 96 2 (inL m.code (m.opts.take (k+1))).length (a0x (inL m.code (m.opts.take (k+1)))),.row V' 96 2 (e0t (m.opts.take k)).length (a0x (e0t (m.opts.take k))),.blk B4 29 6 [.val (.int .i64 0),.val (.int .i64 m.code),.val (.int .i64 0),.val (.slice none 0 0),.val W,roB m.pay],.blk B5 29 6 [.val (.int .i64 m.ty),.val (.int .i64 0),.val (.int .i64 m.id),roB m.tok,.val V',.val (.slice none 0 0)],.blk B3 29 6 [.val (.int .i64 0),.val (.int .i64 0),.val (.int .i64 0),.val (.slice none 0 0),.val (.slice none 0 0),.val (.slice none 0 0)],.blk B2 29 6 [.val (.int .i64 0),.val (.int .i64 0),.val (.int .i64 0),.val (.slice none 0 0),.val (.slice none 0 0),.val (.slice none 0 0)],.blk B1 29 6 [.val (.int .i64 m.ty),.val (.int .i64 m.code),.val (.int .i64 m.id),roB m.tok,roO m.opts,roB m.pay]]) (fun h71=> ?_) (fun h71=> ?_) ?_<;>try(try simp only[vX]at h71)
  ·rw[if_pos (by omega)]at hin
   refine zD (zr ?_)
   refine zB ?_
   refine vT (xH rfl Tryz.func155 rfl rfl rfl (d0Y (oat m.opts k) hv4)) ?_
   refine zd ?_
   intro B7
   refine za 0 (zI (zo (zD (zD (zr ?_)))))
   refine zt ?_
   refine zn ?_
   refine z9 ?_
   refine zb ?_
   refine zM ?_
   refine zX 78 ?_
   refine AO.opG rfl rfl rfl (fun hp=>wW 79 rfl (by exact hp) (xH rfl Tryz.func153 rfl rfl rfl (c0w m.code))) ?_
   refine zV (zI (zo ?_))
   refine yk (fun h81=> ?_) (fun h81=> ?_)<;>(try simp only[vX]at h81)
   ·have hi2:inO m.code (oat m.opts k)=⟨(oat m.opts k).num,[]⟩:=if_pos h81
    rw[hi2]at hin
    refine zr ?_
    refine zt ?_
    refine za 0 (zI (zo (zr ?_)))
    refine zt ?_
    refine zn ?_
    refine zB ?_
    refine zQ ?_
    intro B8
    refine AO.g ?_
    refine yc 0 86 ?_
    refine wd 86 ?_
    refine AO.u ?_
    dsimp only[List.eraseIdx]
    refine zx 2 ?_
    intro V9 hV9
    refine zt ?_
    refine yA 4 (zI ?_)
    refine AQ.g ?_
    refine G.coeRow 2 _ (a0x (inL m.code (m.opts.take k))++[.val (.int .i64 (oat m.opts k).num),roB []]) rfl rfl (CoeL.app CoeL.refl (CoeL.cons Coe.rfl (CoeL.cons Coe.nil CoeL.nil))) ?_
    refine AQ.u ?_
    refine AQ.midI _ _ (⟨_,‹_›,rfl,by rw[hin,a0y,cH]⟩) (by repeat(first|exact a0j|refine a0i rfl ?_)) (by repeat(exact a0j)) (by repeat(first|exact a0A|refine a0v 1 rfl ?_))
   have hi2:inO m.code (oat m.opts k)=oat m.opts k:=if_neg (fun hh=>by have:=h81 hh.1;rw[hh.2]at this;cases this)
   rw[hi2]at hin
   refine yX (zo (zr ?_))
   refine zt ?_
   refine zn ?_
   refine zB ?_
   refine zQ ?_
   intro B10
   refine AO.g ?_
   refine yc 0 86 ?_
   refine wd 86 ?_
   refine AO.u ?_
   dsimp only[List.eraseIdx]
   refine zx 2 ?_
   intro V11 hV11
   refine zt ?_
   refine yA 4 (zI ?_)
   refine AQ.midI _ _ (⟨_,‹_›,rfl,by rw[hin,a0y,cH]⟩) (by repeat(first|exact a0j|refine a0i rfl ?_)) (by repeat(exact a0j)) (by repeat(first|exact a0A|refine a0v 1 rfl ?_))
  ·rw[if_neg (by omega)]at hin
   refine yX ?_
   refine xw _ _ (⟨V,hV,rfl,by rw[hin]⟩)
  rintro E1 H1 ⟨W,hW,rfl,rfl⟩
  dsimp only[cA,cN]
  refine zo (zD (zD (zr ?_)))
  refine zb ?_
  refine z9 ?_
  refine zb ?_
  refine zM ?_
  refine zv 92 ?_
  refine y8 93 ?_
  refine zE (zI (zo ?_))
  refine xU [(1,_),(2,_),(3,_),(7,_),(8,_),(9,_),(11,_),(50,_),(51,_),(52,_)] (fun E H=> ∃(W':Value),(W'.oneCell'=true)∧E= []∧H= [.blk B6 96 2 [.val (.int .i64 (oat m.opts k).num),roB (oat m.opts k).val],.row W 96 2 (inL m.code (m.opts.take (k+1))).length (a0x (inL m.code (m.opts.take (k+1)))),.row W' 96 2 (e0t (m.opts.take (k+1))).length (a0x (e0t (m.opts.take (k+1)))),.blk B4 29 6 [.val (.int .i64 0),.val (.int .i64 m.code),.val (.int .i64 0),.val (.slice none 0 0),.val W,roB m.pay],.blk B5 29 6 [.val (.int .i64 m.ty),.val (.int .i64 0),.val (.int .i64 m.id),roB m.tok,.val W',.val (.slice none 0 0)],.blk B3 29 6 [.val (.int .i64 0),.val (.int .i64 0),.val (.int .i64 0),.val (.slice none 0 0),.val (.slice none 0 0),.val (.slice none 0 0)],.blk B2 29 6 [.val (.int .i64 0),.val (.int .i64 0),.val (.int .i64 0),.val (.slice none 0 0),.val (.slice none 0 0),.val (.slice none 0 0)],.blk B1 29 6 [.val (.int .i64 m.ty),.val (.int .i64 m.code),.val (.int .i64 m.id),roB m.tok,roO m.opts,roB m.pay]]) (fun h95=> ?_) (fun h95=> ?_) ?_<;>try(try simp only[vX]at h95)
  ·rw[if_pos h95]at hou
   refine yw 5 ?_
   simp only[cT,cZ,cD,cO]
   refine yr ?_
   refine zL ?_
   refine vo ?_
   refine vS (xH rfl Tryz.func155 rfl rfl rfl (d0Y (oat m.opts k) hv4)) ?_
   refine vS yY ?_
   refine wZ ?_
   simp only[a0f,cN,cA,cP]
   refine zx 2 ?_
   intro V12 hV12
   refine zt ?_
   refine yA 4 (zI ?_)
   refine xw _ _ (⟨_,‹_›,rfl,by rw[hou,a0y,cH]⟩)
  ·rw[if_neg (by omega)]at hou
   refine yX ?_
   refine xw _ _ (⟨V',hV',rfl,by rw[hou]⟩)
  rintro E1 H1 ⟨W',hW',rfl,rfl⟩
  dsimp only[cA,cN]
  refine zo (zr ?_)
  refine zb ?_
  refine zb ?_
  refine zM ?_
  refine zv 105 ?_
  refine y8 106 ?_
  refine zE ?_
  refine zc (zI (xz (zo (zr ?_))))
  refine zA ?_
  refine zb (zI ?_)
  refine zJ _ _ _ (by omega) (⟨k+1,W,W',by omega,hW,hW',hb',rfl,by rw[hw'],rfl⟩)
 obtain rfl:k=m.opts.length:=by omega
 rw[List.take_length]at hb hl1 hl2⊢
 have hnb: ¬o0c m.opts=true:=by rw[hb];simp
 have e0:a0u m=(inM m,n0h m,0):=by rw[a0u,if_pos ⟨hv,hc⟩,if_neg hnb]
 refine AW.g ?_
 refine G.freezeCell 0 1 4 rfl rfl rfl ?_
 refine AW.u ?_
 refine AW.g ?_
 refine G.freezeCell 0 1 4 rfl rfl rfl ?_
 refine AW.u ?_
 refine wb ?_
 refine xY ?_
 refine x3 ?_
 refine xx (zo (zD (xj (zD (zr ?_)))))
 refine zt ?_
 refine zn ?_
 refine vT (xH rfl Tryz.func152 rfl rfl rfl (c0R m.code)) ?_
 refine zb ?_
 refine yt ?_
 refine zV ?_
 refine zc (zI (zo ?_))
 refine yk (fun ha=> ?_) (fun ha=> ?_)<;>(try simp only[vX]at ha)
 ·have e1:i0r m=5:=by rw[i0r,if_pos ha.1,if_pos ha.2]
  have e:a0u m=(inM m,⟨m.ty,5,m.id,m.tok,e0t m.opts,[]⟩,0):=by rw[e0,n0h,e1]
  refine zr ?_
  refine zt ?_
  refine za 1 (zI (xz (zo (zD ?_))))
  refine x0 [(0,false),(1,false),(2,true),(3,true),(4,false)] ?_
  dsimp only[List.eraseIdx]
  refine yO ?_
  refine zZ ?_
  refine xX _ (fun w0 R0=> ?_)
  refine za 0 (AM.okN ?_)
  dsimp only[a0z]
  refine xX _ (fun w0 R0=> ?_)
  refine za 1 (AM.okN ?_)
  dsimp only[a0z]
  refine wM ?_
  refine vg ?_
  dsimp only[cA,cN]
  refine zo (xc ?_)
  refine x8 yh zj (e0r e)
 refine zD (zr ?_)
 refine zt ?_
 refine zn ?_
 refine vT (xH rfl Tryz.func152 rfl rfl rfl (c0R m.code)) ?_
 refine zc (zI (zo ?_))
 refine yk (fun hd=> ?_) (fun hd=> ?_)<;>(try simp only[vX]at hd)
 ·have e1:i0r m=2:=by rw[i0r,if_pos hd,if_neg (by rw[ha hd];simp)]
  have e:a0u m=(inM m,⟨m.ty,2,m.id,m.tok,e0t m.opts,[]⟩,0):=by rw[e0,n0h,e1]
  refine zr ?_
  refine zt ?_
  refine za 1 (zI (xz (zo (zD ?_))))
  refine x0 [(0,false),(1,false),(2,true),(3,true),(4,false)] ?_
  dsimp only[List.eraseIdx]
  refine yO ?_
  refine zZ ?_
  refine xX _ (fun w0 R0=> ?_)
  refine za 0 (AM.okN ?_)
  dsimp only[a0z]
  refine xX _ (fun w0 R0=> ?_)
  refine za 1 (AM.okN ?_)
  dsimp only[a0z]
  refine wM ?_
  refine vg ?_
  dsimp only[cA,cN]
  refine zo (xc ?_)
  refine x8 yh zj (e0r e)
 refine zD (zr ?_)
 refine zb ?_
 refine zc (zI (zo ?_))
 refine yk (fun hf=> ?_) (fun hf=> ?_)<;>(try simp only[vX]at hf)
 ·have e1:i0r m=69:=by rw[i0r,if_neg (by rw[hd];simp),if_pos hf]
  have e:a0u m=(inM m,⟨m.ty,69,m.id,m.tok,e0t m.opts,[]⟩,0):=by rw[e0,n0h,e1]
  refine zr ?_
  refine zt ?_
  refine za 1 (zI (xz (zo (zD ?_))))
  refine x0 [(0,false),(1,false),(2,true),(3,true),(4,false)] ?_
  dsimp only[List.eraseIdx]
  refine yO ?_
  refine zZ ?_
  refine xX _ (fun w0 R0=> ?_)
  refine za 0 (AM.okN ?_)
  dsimp only[a0z]
  refine xX _ (fun w0 R0=> ?_)
  refine za 1 (AM.okN ?_)
  dsimp only[a0z]
  refine wM ?_
  refine vg ?_
  dsimp only[cA,cN]
  refine zo (xc ?_)
  refine x8 yh zj (e0r e)
 have e1:i0r m=68:=by rw[i0r,if_neg (by rw[hd];simp),if_neg (by rw[hf];simp)]
 have e:a0u m=(inM m,⟨m.ty,68,m.id,m.tok,e0t m.opts,[]⟩,0):=by rw[e0,n0h,e1]
 refine zr ?_
 refine zt ?_
 refine za 1 (zI (xz (zo (zD ?_))))
 refine x0 [(0,false),(1,false),(2,true),(3,true),(4,false)] ?_
 dsimp only[List.eraseIdx]
 refine yO ?_
 refine zZ ?_
 refine xX _ (fun w0 R0=> ?_)
 refine za 0 (AM.okN ?_)
 dsimp only[a0z]
 refine xX _ (fun w0 R0=> ?_)
 refine za 1 (AM.okN ?_)
 dsimp only[a0z]
 refine wM ?_
 refine vg ?_
 dsimp only[cA,cN]
 refine zo (xc ?_)
 refine x8 yh zj (e0r e)
def ltO (os:List Opt)(n:Int):List Opt:=os.filter fun o=>decide (o.num<n)
def gtO (os:List Opt)(n:Int):List Opt:=os.filter fun o=>decide (n<o.num)
def eqO (n:Int)(vs:List (List UInt8)):List Opt:=vs.map fun v=>⟨n,v⟩
def e0m (os:List Opt)(n:Int)(vs:List (List UInt8)):List Opt:=ltO os n++eqO n vs++gtO os n
theorem k0J (os:List Opt)(o:Opt)(n:Int):ltO (os++[o]) n=if o.num<n then ltO os n++[o]else ltO os n:=by
 unfold ltO
 rw[List.filter_append]
 by_cases h:o.num<n<;>simp[h]
theorem k0M (os:List Opt)(o:Opt)(n:Int):gtO (os++[o]) n=if n<o.num then gtO os n++[o]else gtO os n:=by
 unfold gtO
 rw[List.filter_append]
 by_cases h:n<o.num<;>simp[h]
theorem j0z (os:List Opt)(n:Int):(ltO os n).length≤os.length:=List.length_filter_le _ _
theorem j0C (os:List Opt)(n:Int):(gtO os n).length≤os.length:=List.length_filter_le _ _
theorem h0I (n:Int)(vs:List (List UInt8)):(eqO n vs).length=vs.length:=by simp[eqO]
theorem d0f {os:List Opt}{n:Int}{vs:List (List UInt8)}{o:Opt}(h:o∈e0m os n vs):o∈os∨ ∃v∈vs,o=⟨n,v⟩:=by
 unfold e0m ltO gtO eqO at h
 simp only[List.mem_append,List.mem_filter,List.mem_map]at h
 rcases h with(h|⟨v,h,rfl⟩)|h
 ·exact .inl h.1
 ·exact .inr ⟨v,h,rfl⟩
 exact .inl h.1
theorem h0k (os:List Opt)(n:Int)(vs:List (List UInt8)):(e0m os n vs).length≤os.length+os.length+vs.length:=by
 have:=j0z os n
 have:=j0C os n
 simp only[e0m,cH,h0I];omega
theorem m0x (m:Msg)(n:Int)(vs:List (List UInt8))(h1:m.tok.length≤140737488355328)(h2:m.pay.length≤140737488355328)(h3:m.opts.length≤100000)(h4:vs.length≤100000)(hat: ∀o∈m.opts,o.val.length≤140737488355328)(hvs: ∀v∈vs,v.length≤140737488355328):
  Sp Tryz.prog 25 [a0U m,.val (.int .i64 n),r0j vs] [] (Is (a0U ⟨m.ty,m.code,m.id,m.tok,e0m m.opts n vs,m.pay⟩)):=by
 have hat2: ∀o∈e0m m.opts n vs,o.val.length≤140737488355328:=fun o ho=>by
  rcases d0f ho with h|⟨v,h,rfl⟩
  ·exact hat o h
  exact hvs v h
 have hsl:=h0k m.opts n vs
 refine yN Tryz.func25 _ Tryz.ntmps25 (fun w0 R0=> ?_)
 refine zD (zr ?_)
 refine ye ?_
 intro B1
 refine zd ?_
 intro B2
 refine zI (zo (zD (zr ?_)))
 refine zc (zI (zo (zD (zD (zr ?_)))))
 refine zt ?_
 refine zn ?_
 refine zW ?_
 refine zb (zI (zo (xj ?_)))
 refine AW.g ?_
 refine G.nilRow 96 2 ?_
 refine AW.u ?_
 refine zh [(1,_),(2,_),(3,_),(6,_),(15,_),(16,_)] (fun nn E H=> ∃(k:Nat) (V:Value),(k≤m.opts.length)∧(V.oneCell'=true)∧nn=m.opts.length-k∧E= [(7,.val V),(17,.val (.int .i64 (k:Int)))]∧H= [.row V 96 2 (ltO (m.opts.take k) n).length (a0x (ltO (m.opts.take k) n)),.blk B2 29 6 [.val (.int .i64 0),.val (.int .i64 0),.val (.int .i64 0),.val (.slice none 0 0),.val (.slice none 0 0),.val (.slice none 0 0)],.blk B1 29 6 [.val (.int .i64 m.ty),.val (.int .i64 m.code),.val (.int .i64 m.id),roB m.tok,roO m.opts,roB m.pay]]) _ (⟨0,_,by omega,rfl,rfl,rfl,rfl⟩) ?_
 rintro nn E H ⟨k,V,h5,hV,rfl,rfl,rfl⟩
 dsimp only[cA,cN]
 have hl:=j0z (m.opts.take k) n
 rw[List.length_take]at hl
 refine zD (zr ?_)
 refine zP (zI (zo (zD ?_)))
 refine yk (fun h6=> ?_) (fun h6=> ?_)<;>(try simp only[vX]at h6)
 ·have hk:k<m.opts.length:=by omega
  have hsc:=k0J (m.opts.take k) (oat m.opts k) n
  rw[←a0g Opt.none hk]at hsc
  refine yX (zo (zD (xj (zD (zr ?_)))))
  refine z8 ?_
  refine yU ?_
  refine zd ?_
  intro B3
  refine za 0 (zI (zo (zD (zr ?_))))
  refine zt ?_
  refine zy ?_
  refine zb ?_
  refine zP (zI (zo ?_))
  refine yk (fun h7=> ?_) (fun h7=> ?_)<;>(try simp only[vX]at h7)
  ·rw[if_pos h7]at hsc
   refine zr ?_
   refine zb ?_
   refine zB ?_
   refine zQ ?_
   intro B4
   refine AO.g ?_
   refine yc 0 27 ?_
   refine wd 27 ?_
   refine AO.u ?_
   dsimp only[List.eraseIdx]
   refine zx 1 ?_
   intro V5 hV5
   refine zc (zI (xz (zo (zr ?_))))
   refine zA ?_
   refine zb (zI ?_)
   refine zJ _ _ _ (by omega) (⟨k+1,_,by omega,‹_›,rfl,rfl,by rw[hsc,a0y,cH]⟩)
  rw[if_neg (by omega)]at hsc
  refine yX (xz (zo (zr ?_)))
  refine zA ?_
  refine zb (zI ?_)
  refine zJ _ _ _ (by omega) (⟨k+1,_,by omega,hV,rfl,rfl,by rw[hsc]⟩)
 obtain rfl:k=m.opts.length:=by omega
 rw[List.take_length]at hl⊢
 refine wb ?_
 refine xY ?_
 refine x3 ?_
 refine xx (zo (zD (zD (zr ?_))))
 refine zb ?_
 refine zW ?_
 refine zb (zI (zo (xj ?_)))
 refine zh [(1,_),(3,_),(6,_),(30,_),(31,_)] (fun nn E H=> ∃(j:Nat) (V:Value),(j≤vs.length)∧(V.oneCell'=true)∧nn=vs.length-j∧E= [(7,.val V),(32,.val (.int .i64 (j:Int)))]∧H= [.row V 96 2 (ltO m.opts n++eqO n (vs.take j)).length (a0x (ltO m.opts n++eqO n (vs.take j))),.blk B2 29 6 [.val (.int .i64 0),.val (.int .i64 0),.val (.int .i64 0),.val (.slice none 0 0),.val (.slice none 0 0),.val (.slice none 0 0)],.blk B1 29 6 [.val (.int .i64 m.ty),.val (.int .i64 m.code),.val (.int .i64 m.id),roB m.tok,roO m.opts,roB m.pay]]) _ (⟨0,_,by omega,hV,rfl,rfl,by rw[show ltO m.opts n++eqO n (vs.take 0)=ltO m.opts n by simp[eqO]]⟩) ?_
 rintro nn E H ⟨j,V,h8,hV,rfl,rfl,rfl⟩
 dsimp only[cA,cN]
 have hl2:(ltO m.opts n++eqO n (vs.take j)).length=(ltO m.opts n).length+j:=by rw[cH,h0I,List.length_take];omega
 refine zD (zr ?_)
 refine zP (zI (zo (zD ?_)))
 refine yk (fun h9=> ?_) (fun h9=> ?_)<;>(try simp only[vX]at h9)
 ·have hj:j<vs.length:=by omega
  have hsc:ltO m.opts n++eqO n (vs.take (j+1))=(ltO m.opts n++eqO n (vs.take j))++[⟨n,vat vs j⟩]:=by
   rw[a0g [] hj];simp[eqO]
  refine yX (zo (zD (xj (zD (zr ?_)))))
  refine z8 ?_
  refine vT (O.loadR rfl rfl (by exact e0P (by omega) (by omega))) ?_
  refine zc (zI (zo (zr ?_)))
  refine zb ?_
  refine zb ?_
  refine zb ?_
  refine zN ?_
  refine zQ ?_
  intro B6
  refine AO.g ?_
  refine yc 0 40 ?_
  refine wd 40 ?_
  refine AO.u ?_
  dsimp only[List.eraseIdx]
  refine zx 0 ?_
  intro V7 hV7
  refine zc (zI (xz (zo (zr ?_))))
  refine zA ?_
  refine zb (zI ?_)
  refine zq _ _ _ (by omega) (⟨j+1,_,by omega,‹_›,rfl,rfl,by rw[hsc,a0y,cH]⟩)
 obtain rfl:j=vs.length:=by omega
 rw[List.take_length]at hl2⊢
 refine wb ?_
 refine xY ?_
 refine x3 ?_
 refine xx (zo (zD (zD (zr ?_))))
 refine zt ?_
 refine zn ?_
 refine zW ?_
 refine zb (zI (zo (xj ?_)))
 refine zh [(1,_),(3,_),(6,_),(44,_),(45,_)] (fun nn E H=> ∃(i:Nat) (V:Value),(i≤m.opts.length)∧(V.oneCell'=true)∧nn=m.opts.length-i∧E= [(7,.val V),(46,.val (.int .i64 (i:Int)))]∧H= [.row V 96 2 (ltO m.opts n++eqO n vs++gtO (m.opts.take i) n).length (a0x (ltO m.opts n++eqO n vs++gtO (m.opts.take i) n)),.blk B2 29 6 [.val (.int .i64 0),.val (.int .i64 0),.val (.int .i64 0),.val (.slice none 0 0),.val (.slice none 0 0),.val (.slice none 0 0)],.blk B1 29 6 [.val (.int .i64 m.ty),.val (.int .i64 m.code),.val (.int .i64 m.id),roB m.tok,roO m.opts,roB m.pay]]) _ (⟨0,_,by omega,hV,rfl,rfl,by rw[show ltO m.opts n++eqO n vs++gtO (m.opts.take 0) n=ltO m.opts n++eqO n vs by simp[gtO]]⟩) ?_
 rintro nn E H ⟨i,V,h10,hV,rfl,rfl,rfl⟩
 dsimp only[cA,cN]
 have hl3:=j0C (m.opts.take i) n
 rw[List.length_take]at hl3
 have hl4:(ltO m.opts n++eqO n vs++gtO (m.opts.take i) n).length=(ltO m.opts n++eqO n vs).length+(gtO (m.opts.take i) n).length:=List.length_append
 refine zD (zr ?_)
 refine zP (zI (zo (zD ?_)))
 refine yk (fun h11=> ?_) (fun h11=> ?_)<;>(try simp only[vX]at h11)
 ·have hk:i<m.opts.length:=by omega
  have hsc:=k0M (m.opts.take i) (oat m.opts i) n
  rw[←a0g Opt.none hk]at hsc
  refine yX (zo (zD (xj (zD (zr ?_)))))
  refine z8 ?_
  refine yU ?_
  refine zd ?_
  intro B8
  refine za 0 (zI (zo (zD (zr ?_))))
  refine zt ?_
  refine zy ?_
  refine zb ?_
  refine yS (zI (zo ?_))
  refine yk (fun h12=> ?_) (fun h12=> ?_)<;>(try simp only[vX]at h12)
  ·rw[if_pos h12]at hsc
   refine zr ?_
   refine zb ?_
   refine zB ?_
   refine zQ ?_
   intro B9
   refine AO.g ?_
   refine yc 0 56 ?_
   refine wd 56 ?_
   refine AO.u ?_
   dsimp only[List.eraseIdx]
   refine zx 1 ?_
   intro V10 hV10
   refine zc (zI (xz (zo (zr ?_))))
   refine zA ?_
   refine zb (zI ?_)
   refine zJ _ _ _ (by omega) (⟨i+1,_,by omega,‹_›,rfl,rfl,by rw[hsc,←List.append_assoc,a0y,List.length_append (bs:= [_])]⟩)
  rw[if_neg (by omega)]at hsc
  refine yX (xz (zo (zr ?_)))
  refine zA ?_
  refine zb (zI ?_)
  refine zJ _ _ _ (by omega) (⟨i+1,_,by omega,hV,rfl,rfl,by rw[hsc]⟩)
 obtain rfl:i=m.opts.length:=by omega
 rw[List.take_length]
 refine AW.g ?_
 refine yf 0 [7] ?_
 refine AW.u ?_
 try dsimp only[List.map,List.eraseIdx,cA,cN]
 refine wb ?_
 refine xY ?_
 refine x3 ?_
 refine xx (zo (zD (zr ?_)))
 refine zC ?_
 refine zb ?_
 refine vT (xH rfl Tryz.func75 rfl rfl rfl (q0M m (e0m m.opts n vs) h1 h2 (by omega) hat2)) ?_
 refine za 0 (zI (zo (xc ?_)))
 refine AQ.retCell rfl rfl (by repeat(exact List.Mem.head _)) (by(dsimp only[List.set,cA,cN,List.take,List.drop];rfl)) rfl nS (⟨rfl,rfl⟩)
end Go.Proofs.YtojomcdjcpmnkaaGreat.By
namespace Go.Proofs.YtojomcdjcpmnkaaGreat.By
open Go.RowKit L A Dk
attribute [local irreducible] AW AQ AO
theorem l0c: ∀{l:Int} {os:List Opt},AscO l os↔os.Pairwise (fun a b=>a.num≤b.num)∧ ∀o∈os,l≤o.num∧o.num≤65535∧(o.val.length:Int)≤1034
 |l,[]=>by simp[AscO]
 | l,o::os=>by
  rw[AscO,l0c,List.pairwise_cons]
  simp only[List.mem_cons,forall_eq_or_imp]
  constructor
  ·rintro⟨h1,h2,h3,h4,h5⟩
   exact⟨⟨fun a ha=>(h5 a ha).1,h4⟩,⟨h1,h2,h3⟩,fun a ha=>⟨Int.le_trans h1 (h5 a ha).1,(h5 a ha).2⟩⟩
  rintro⟨⟨h1,h2⟩,⟨h3,h4,h5⟩,h6⟩
  exact⟨h3,h4,h5,h2,fun a ha=>⟨h1 a ha,(h6 a ha).2⟩⟩
theorem o0C {os:List Opt}{n:Int}{vs:List (List UInt8)}(h:AscO 0 os)(hn:0≤n∧n≤65535)(hv: ∀v∈vs,(v.length:Int)≤1034):AscO 0 (e0m os n vs):=by
 rw[l0c]at h⊢
 obtain⟨h1,h2⟩:=h
 refine⟨?_,fun o ho=> ?_⟩
 ·unfold e0m ltO gtO eqO
  rw[List.pairwise_append,List.pairwise_append]
  refine⟨⟨h1.filter _,?_,?_⟩,h1.filter _,?_⟩
  ·rw[List.pairwise_map]
   exact List.Pairwise.imp (R:=fun _ _=>True) (fun _=>Int.le_refl _) (List.pairwise_of_forall (fun _ _=>trivial))
  ·intro a ha b hb
   simp only[List.mem_filter,cQ,List.mem_map]at ha hb
   obtain⟨v, -,rfl⟩:=hb
   simp only;omega
  intro a ha b hb
  simp only[List.mem_append,List.mem_filter,cQ,List.mem_map]at ha hb
  rcases ha with ha|⟨v, -,rfl⟩
  ·omega
  simp only;omega
 rcases d0f ho with ho|⟨v,hv',rfl⟩
 ·exact h2 o ho
 exact⟨hn.1,hn.2,hv v hv'⟩
theorem g0B (n:Int): ∀os:List Opt,(ltO os n).length+(b0B os n).length+(gtO os n).length=os.length
 | []=>rfl
 |o::os=>by
  have:=g0B n os
  unfold ltO b0B gtO at*
  simp only[List.filter_cons,List.length_map]at*
  rcases Int.lt_trichotomy o.num n with h|h|h
  ·rw[if_pos (by simpa using h),if_neg (by simp;omega),if_neg (by simp;omega)];simp only[cL];omega
  ·rw[if_neg (by simp;omega),if_pos (by simpa using h),if_neg (by simp;omega)];simp only[cL];omega
  rw[if_neg (by simp;omega),if_neg (by simp;omega),if_pos (by simpa using h)];simp only[cL];omega
theorem m0y (os:List Opt)(n:Int)(v:List UInt8):(e0m os n (b0B os n++[v])).length=os.length+1:=by
 have:=g0B n os
 simp only[e0m,cH,h0I,cL,cE];omega
theorem h0O {os:List Opt}{n:Int}{v:List UInt8}(h:v∈b0B os n): ∃o∈os,o.val=v:=by
 unfold b0B at h
 obtain⟨o,ho,rfl⟩:=List.mem_map.1 h
 exact⟨o,(List.mem_filter.1 ho).1,rfl⟩
def q0J (c:Int):Prop:=0≤c∧c≤255∧h0R c
def OptsOk (n:Nat)(os:List Opt):Prop:=AscO 0 os∧os.length≤n∧ ∀o∈os,o.val.length≤5
theorem OptsOk.add {c:Nat}{os:List Opt}(h:OptsOk c os){n:Int}(hn:0≤n∧n≤65535){v:List UInt8}(hv:v.length≤5):OptsOk (c+1) (e0m os n (b0B os n++[v])):=by
 have hm: ∀w∈b0B os n++[v],w.length≤5:=fun w hw=>by
  rcases List.mem_append.1 hw with hw|hw
  ·obtain⟨o,ho,rfl⟩:=h0O hw
   exact h.2.2 o ho
  obtain rfl:w=v:=by simpa using hw
  exact hv
 refine⟨o0C h.1 hn fun w hw=>by have:=hm w hw;omega,by rw[m0y];have:=h.2.1;omega,fun o ho=> ?_⟩
 rcases d0f ho with ho|⟨w,hw,rfl⟩
 ·exact h.2.2 o ho
 exact hm w hw
theorem t0a {m:Msg}{n:Int}{vs:List (List UInt8)}{N:Nat}{xs:List AV}(e1:N=vs.length)(e2:xs=bsA vs)(h1:m.tok.length≤140737488355328)(h2:m.pay.length≤140737488355328)(h3:m.opts.length≤100000)(h4:vs.length≤100000)(hat: ∀o∈m.opts,o.val.length≤140737488355328)(hvs: ∀v∈vs,v.length≤140737488355328):
  Sp Tryz.prog 25 [a0U m,.val (.int .i64 n),.ro false N xs] [] (Is (a0U ⟨m.ty,m.code,m.id,m.tok,e0m m.opts n vs,m.pay⟩)):=by
 subst e1;subst e2
 exact m0x m n vs h1 h2 h3 h4 hat hvs
theorem OptsOk.big {n:Nat}{os:List Opt}(h:OptsOk n os): ∀o∈os,o.val.length≤140737488355328:=fun o ho=>by have:=h.2.2 o ho;omega
theorem OptsOk.vals {n:Nat}{os:List Opt}(h:OptsOk n os){x:Int}{v:List UInt8}(hv:v.length≤5): ∀w∈b0B os x++[v],w.length≤140737488355328:=fun w hw=>by
 rcases List.mem_append.1 hw with hw|hw
 ·obtain⟨o,ho,rfl⟩:=h0O hw
  have:=h.2.2 o ho;omega
 obtain rfl:w=v:=by simpa using hw
 omega
def MsgOk (c:Int)(m:Msg):Prop:=ValM m∧m.code=c∧m.tok.length≤8∧m.pay.length≤20∧m.opts.length≤5∧ ∀o∈m.opts,o.val.length≤5
theorem MsgOk.sm {c:Int}{m:Msg}(h:MsgOk c m):SmM m:=⟨by have:=h.2.2.1;omega,by have:=h.2.2.2.1;omega,by have:=h.2.2.2.2.1;omega,fun o ho=>by have:=h.2.2.2.2.2 o ho;omega⟩
theorem f0A {m:Msg}(h1:m.tok.length≤8)(h2:m.pay.length≤20)(h3:m.opts.length≤5)(ha:AscO 0 m.opts)(h4: ∀o∈m.opts,o.val.length≤5):(raw m).length≤4096:=by
 have key: ∀(os:List Opt) (l:Int),(∀o∈os,o.val.length≤5)→(g0H l os).length≤os.length*10:=by
  intro os
  induction os with
  |nil=>intro l _;simp[g0H]
  |cons o os ih=>
   intro l h
   have g1:=ih o.num fun p hp=>h p (List.mem_cons_of_mem _ hp)
   have g2:=n0E (o.num-l) o.val.length
   have g3:=h o (List.mem_cons_self ..)
   simp only[g0H,cH,cL];omega
 have g1:=key m.opts 0 h4
 have g2:(if m.pay= []then []else(255:UInt8)::m.pay).length≤m.pay.length+1:=by split<;>simp
 simp only[raw,f0K,cH,cL,cE]at g2⊢
 omega
theorem MsgOk.mk {t c i:Int}{x p:List UInt8}{os:List Opt}(ht:0≤t∧t<2)(hc:q0J c)(hc0:c≠0)(hi:0≤i∧i<65536)(hx:x.length≤4)(ho:OptsOk 5 os)(hp:p.length≤20):MsgOk c ⟨t,c,i,x,os,p⟩:=by
 refine⟨⟨⟨⟨ht.1,by simp only;omega,hc.1,hc.2.1,hc.2.2⟩,⟨hi.1,by simp only;omega,by simp only;omega,by have:=ho.2.1;simp only;omega⟩,ho.1,fun h=>absurd h hc0,fun h=>by simp only at h;omega,by simp only;omega⟩,?_⟩,rfl,by simp only;omega,hp,ho.2.1,ho.2.2⟩
 have:=f0A (m:=⟨t,c,i,x,os,p⟩) (by simp only;omega) hp ho.2.1 ho.1 ho.2.2
 omega
theorem MsgOk.zero {t i:Int}(ht:0≤t∧t<4)(hi:0≤i∧i<65536):MsgOk 0 ⟨t,0,i,[],[],[]⟩:=by
 refine⟨⟨⟨⟨ht.1,by simp only;omega,by simp,by simp,.inl rfl⟩,⟨hi.1,by simp only;omega,by simp,by simp⟩,trivial,fun _=>by simp,fun _=>rfl,by simp⟩,?_⟩,rfl,by simp,by simp,by simp,by simp⟩
 have:=f0A (m:=⟨t,0,i,[],[],[]⟩) (by simp) (by simp) (by simp) trivial (by simp)
 omega
def g0m (m:Msg):Prop:=(m.opts.length≤20∧m.tok.length≤900∧m.pay.length≤900)∧ ∀k,k<m.opts.length→(oat m.opts k).val.length≤900
instance (m:Msg):Decidable (g0m m):=by unfold g0m;infer_instance
theorem e0Y (b:List UInt8):Sp Tryz.prog 53 [roB b] [] (Is (.val (.bool (decide ((b.length:Int)≤900))))):=by
 refine yN Tryz.func53 _ Tryz.ntmps53 (fun w0 R0=> ?_)
 refine zD (zr ?_)
 refine zc (zI (zo (zD (zr ?_))))
 refine zb ?_
 refine zW ?_
 refine vN ?_
 refine zc (zI (zo (xc ?_)))
 refine yE
theorem m0s (m:Msg)(hp:m.opts.length≤maxLen):Sp Tryz.prog 9 [a0U m] [] (Is (.val (.bool (decide (g0m m))))):=by
 unfold maxLen at hp
 refine yN Tryz.func9 _ Tryz.ntmps9 (fun w0 R0=> ?_)
 refine zD (zr ?_)
 refine ye ?_
 intro B1
 refine zc (zI (zo (zD (zD (zr ?_)))))
 refine zt ?_
 refine zy ?_
 refine zW ?_
 refine zb (zI (zo (xj ?_)))
 refine zh [(1,_),(6,_),(7,_)] (fun nn E H=> ∃(k:Nat),(k≤m.opts.length)∧(∀j,j<k→(oat m.opts j).val.length≤900)∧nn=m.opts.length-k∧E= [(8,.val (.int .i64 (k:Int)))]∧H= [.blk B1 29 6 [.val (.int .i64 m.ty),.val (.int .i64 m.code),.val (.int .i64 m.id),roB m.tok,roO m.opts,roB m.pay]]) _ (⟨0,by omega,by omega,rfl,rfl,rfl⟩) ?_
 rintro nn E H ⟨k,hk,hh,rfl,rfl,rfl⟩
 dsimp only[cA,cN]
 refine zD (zr ?_)
 refine zP (zI (zo (zD ?_)))
 refine yk (fun h2=> ?_) (fun h2=> ?_)<;>(try simp only[vX]at h2)
 ·have hk2:k<m.opts.length:=by omega
  refine yX (zo (zD (xj (zD (zr ?_)))))
  refine z8 ?_
  refine yU ?_
  refine zd ?_
  intro B2
  refine za 0 (zI (zo (zD (zr ?_))))
  refine zt ?_
  refine zy ?_
  refine vT (xH rfl Tryz.func53 rfl rfl rfl (e0Y _)) ?_
  refine xq (zI (zo ?_))
  refine yk (fun h3=> ?_) (fun h3=> ?_)<;>(try simp only[vX]at h3)
  ·have e:decide (g0m m)=false:=decide_eq_false fun hl=>by have:=hl.2 k hk2;omega
   refine zD (zr ?_)
   refine zc (zI (zo (xc ?_)))
   refine wi (xr ?_)
   refine AQ.loopR ?_
   refine wi (xr ?_)
   refine vu rfl rfl nS (⟨by rw[e];rfl,rfl⟩)
  refine yX (xz (zo (zr ?_)))
  refine zA ?_
  refine zb (zI ?_)
  refine zJ _ _ _ (by omega) (⟨k+1,by omega,fun j hj=>(Nat.lt_or_ge j k).elim (hh j) (fun h5=>by rw[show j=k by omega];omega),rfl,rfl,rfl⟩)
 obtain rfl:k=m.opts.length:=by omega
 refine wb ?_
 refine xY ?_
 refine x3 ?_
 refine xx (zo (zD (zr ?_)))
 refine zt ?_
 refine zy ?_
 refine zW ?_
 refine vN ?_
 refine zb ?_
 refine zM ?_
 refine zv 22 ?_
 refine AO.opG rfl rfl rfl (fun hp=>wW 23 rfl (by exact hp) (xH rfl Tryz.func53 rfl rfl rfl (e0Y _))) ?_
 refine zV ?_
 refine zb ?_
 refine zM ?_
 refine zv 27 ?_
 refine AO.opG rfl rfl rfl (fun hp=>wW 28 rfl (by exact hp) (xH rfl Tryz.func53 rfl rfl rfl (e0Y _))) ?_
 refine zV ?_
 refine zc (zI (zo (xc ?_)))
 have e:decide (g0m m)=(decide ((m.opts.length:Int)≤20)&&decide ((m.tok.length:Int)≤900)&&decide ((m.pay.length:Int)≤900)):=g0a (by
  simp only[g0m,Bool.and_eq_true,cQ]
  exact⟨fun h=>by have:=h.1;omega,fun h=>⟨by omega,hh⟩⟩)
 refine vu rfl rfl nS (⟨congrArg (fun z=>AV.val (.bool z)) e.symm,rfl⟩)
def drL:List Int:= [1,3,4,6,7,11,12,14,15,16,17,23,27,39,60,252,258,292,300]
theorem v0j {z:Int}(h0:0≤z)(h1:z<19){j:Nat}(hj:j=z.toNat*1):([.val (.int .i64 1),.val (.int .i64 3),.val (.int .i64 4),.val (.int .i64 6),.val (.int .i64 7),.val (.int .i64 11),.val (.int .i64 12),.val (.int .i64 14),.val (.int .i64 15),.val (.int .i64 16),.val (.int .i64 17),.val (.int .i64 23),.val (.int .i64 27),.val (.int .i64 39),.val (.int .i64 60),.val (.int .i64 252),.val (.int .i64 258),.val (.int .i64 292),.val (.int .i64 300)]:List AV)[j]? =some (.val (.int .i64 (drL.getD z.toNat 0))):=by
 subst hj
 rw[Nat.mul_one]
 have h2:z.toNat<19:=by omega
 have: ∀k,k<19→([1,3,4,6,7,11,12,14,15,16,17,23,27,39,60,252,258,292,300]:List Int)[k]? =some (drL.getD k 0):=by decide
 have:=congrArg (Option.map (fun n:Int=>AV.val (.int .i64 n))) (this _ h2)
 rw[←List.getElem?_map]at this
 exact this
theorem t0V {z:Int}(h0:0≤z)(h1:z<19):drL.getD z.toNat 0∈drL:=by
 have: ∀k,k<19→drL.getD k 0∈drL:=by decide
 exact this _ (by omega)
theorem v0i {n:Int}(h:n∈drL):0≤n∧n≤65535:=by
 have: ∀n∈drL,0≤n∧n≤65535:=by decide
 exact this n h
def Dr (n:Nat)(os:List Opt):Prop:=OptsOk n os∧ ∀o∈os,o.num∈drL
theorem Dr.add {c:Nat}{os:List Opt}(h:Dr c os){n:Int}(hn:n∈drL){v:List UInt8}(hv:v.length≤5):Dr (c+1) (e0m os n (b0B os n++[v])):=
 ⟨h.1.add (v0i hn) hv,fun o ho=>by
  rcases d0f ho with ho|⟨w,hw,rfl⟩
  ·exact h.2 o ho
  exact hn⟩
theorem p0U (ty code id:Int)(tok:List UInt8)(os:List Opt)(pay:List UInt8)(n:Int)(h3:os.length≤1000000)(hat: ∀o∈os,o.val.length≤140737488355328):Sp Tryz.prog 71 [a0U ⟨ty,code,id,tok,os,pay⟩,.val (.int .i64 n)] []
  (fun v' Hn=> ∃v:Value,v'= .val v∧v.oneCell'=true∧Hn= [.row v 22 1 (b0B os n).length (bsA (b0B os n))]∧(b0B os n).length≤os.length):=
 (o0j ⟨ty,code,id,tok,os,pay⟩ n h3 hat).mono fun r H' ⟨v,h1,h2,h3⟩=>⟨v,h1,h2,h3,d0r _ _⟩
abbrev wO (m:Msg)(os:List Opt):Msg:=⟨m.ty,m.code,m.id,m.tok,os,m.pay⟩
theorem j0K (b:Nat)(l:List Int)(k:Nat)(m:Msg)(hl:l.length≤maxLen)(hk:k≤l.length)(hm:m.opts= [])(ht:m.tok.length≤1000)(hp:m.pay.length≤1000):
  Sp Tryz.prog 56 [ptr b,a0U m] [f0Z b l k] (Gen b l fun r=> ∃os,Dr 5 os∧r=a0U (wO m os)):=by
 obtain⟨ty,code,id,tok,opts,pay⟩:=m
 simp only at hm ht hp
 subst hm
 refine yN Tryz.func56 _ Tryz.ntmps56 (fun w0 R0=> ?_)
 refine zD (zr ?_)
 refine ye ?_
 intro B1
 refine zd ?_
 intro B2
 refine zI (zo (zD (zD (zr ?_))))
 refine zb ?_
 refine AO.callMG 2 rfl rfl Tryz.func33 rfl rfl rfl rfl rfl rfl (b0i _ l _ _ hl (by assumption) (by omega) (by omega)) ?_
 rintro _ _ ⟨⟨z3,hz03,hz13,rfl⟩,kd3,hkd3,rfl⟩
 dsimp only[cA,cN,List.eraseIdx]
 refine zc (zI (zo (xj ?_)))
 obtain⟨c0,rfl⟩: ∃c:Nat,z3=(c:Int):=⟨z3.toNat,by omega⟩
 refine zh [(0,_),(3,_),(4,_)] (fun nn E H=> ∃(c:Nat) (os:List Opt) (kk:Nat),(c≤5)∧(Dr (5-c) os)∧(kk≤l.length)∧c=nn∧E= [(5,.val (.int .i64 (c:Int)))]∧H= [f0Z b l kk,.blk B2 29 6 [.val (.int .i64 0),.val (.int .i64 0),.val (.int .i64 0),.val (.slice none 0 0),.val (.slice none 0 0),.val (.slice none 0 0)],.blk B1 29 6 [.val (.int .i64 ty),.val (.int .i64 code),.val (.int .i64 id),roB tok,roO os,roB pay]]) _ (⟨c0,[],kd3,by omega,⟨⟨trivial,by simp,by simp⟩,by simp⟩,hkd3,rfl,rfl,rfl⟩) ?_
 rintro nn E H ⟨c,os,kk,hc,ho,hkk,rfl,rfl,rfl⟩
 dsimp only[cA,cN]
 have hol:=ho.1.2.1
 have hal:=fun x=>d0r os x
 refine zD (zD (zr ?_))
 refine zb ?_
 refine yS (zI (zo ?_))
 refine yk (fun h=> ?_) (fun h=> ?_)<;>(try simp only[vX]at h)
 ·obtain⟨j,rfl⟩: ∃j,c=j+1:=⟨c-1,by omega⟩
  refine yX (zo (zD (xj (zD (zr ?_)))))
  refine zQ ?_
  intro B4
  refine AO.g ?_
  refine yc 0 13 ?_
  refine wd 13 ?_
  refine AO.u ?_
  dsimp only[List.eraseIdx]
  refine zb ?_
  refine AO.callMG 0 rfl rfl Tryz.func33 rfl rfl rfl rfl rfl rfl (b0i _ l _ _ hl (by assumption) (by omega) (by omega)) ?_
  rintro _ _ ⟨⟨z5,hz05,hz15,rfl⟩,kd5,hkd5,rfl⟩
  dsimp only[cA,cN,List.eraseIdx]
  refine z8 ?_
  refine vT (O.loadR rfl rfl (by exact v0j (by assumption) (by assumption) rfl)) ?_
  refine zc (zI (zo ?_))
  refine vm [[(0,false),(1,false),(2,false),(3,false),(5,false),(4,true),(6,true),(7,false),(8,true)],[(9,false)],[(10,true)]] ?_
  refine AMS.go (by exact(by exact a0C 0 0 rfl rfl a0h)) ?_
  try dsimp only[List.eraseIdx]
  refine zZ ?_
  refine yR ?_
  refine zZ ?_
  refine yR ?_
  refine yR ?_
  refine xX _ (fun w0 R0=> ?_)
  refine AO.opN (xH rfl Tryz.func71 rfl rfl rfl (p0U ty code id tok os pay _ (by omega) ho.1.big)) rfl rfl rfl ?_
  rintro _ _ ⟨V6,rfl,hV6,rfl,hb6⟩
  simp only[cA,cN]
  refine AM.ok ?_
  dsimp only[a0z]
  refine xX _ (fun w0 R0=> ?_)
  refine AO.callMG 1 rfl rfl Tryz.func24 rfl rfl rfl rfl rfl rfl (g0d _ l _ 4 hl (by assumption) (by omega)) ?_
  rintro _ _ ⟨⟨x7,hx7,rfl⟩,kd7,hkd7,rfl⟩
  dsimp only[cA,cN,List.eraseIdx]
  refine AM.ok ?_
  dsimp only[a0z]
  refine xh ?_
  refine xX _ (fun w0 R0=> ?_)
  refine zx 1 ?_
  intro V8 hV8
  refine AO.g ?_
  refine yH 1 [26] ?_
  refine AO.u ?_
  dsimp only[List.map,List.eraseIdx,cA,cN]
  refine AM.ok ?_
  dsimp only[a0z]
  refine vg ?_
  try dsimp only[cA,cN]
  refine vO ?_
  try dsimp only[List.eraseIdx]
  refine vU rfl (O.call rfl Tryz.func25 rfl rfl rfl (t0a (m:=⟨ty,code,id,tok,os,pay⟩) (n:=drL.getD z5.toNat 0) (vs:=b0B os (drL.getD z5.toNat 0)++[x7]) (N:=(b0B os (drL.getD z5.toNat 0)).length+1) (xs:=bsA (b0B os (drL.getD z5.toNat 0))++[roB x7]) (by rw[cH];rfl) (f0g _ _).symm (by show tok.length≤_;omega) (by show pay.length≤_;omega) (by show os.length≤100000;omega) (by rw[cH];simp only[cL,cE];omega) ho.1.big (ho.1.vals (by omega)))) ?_
  refine vg ?_
  try dsimp only[cA,cN]
  refine AMS.go (by exact(by exact a0C 3 2 rfl rfl a0h)) ?_
  try dsimp only[List.eraseIdx]
  refine xX _ (fun w0 R0=> ?_)
  refine za 0 (AM.okN ?_)
  dsimp only[a0z]
  refine vg ?_
  try dsimp only[cA,cN]
  refine AMS.nil (xz (zo (zr ?_)))
  refine zb ?_
  refine yK ?_
  refine zc (zI ?_)
  rw[show((j+1:Nat):Int)-1=(j:Int) by omega]
  have hadd:=ho.add (t0V hz05 hz15) (v:=x7) (by omega)
  rw[show 5-(j+1)+1=5-j by omega]at hadd
  refine xC _ _ _ (by omega) (⟨j,_,_,by omega,hadd,‹_›,rfl,rfl,rfl⟩)
 obtain rfl:c=0:=by omega
 refine wb ?_
 refine xY ?_
 refine x3 ?_
 refine xx (zo (zD (zr ?_)))
 refine zC ?_
 refine za 1 (zI (zo (xc ?_)))
 refine AQ.retCell rfl rfl mM (by(dsimp only[List.set,cA,cN,List.take,List.drop];rfl)) rfl ⟨_,by repeat(first|exact List.Sublist.slnil|refine List.Sublist.cons_cons _ ?_|refine List.Sublist.cons _ ?_),List.Perm.refl _⟩ (⟨⟨os,ho,rfl⟩,kk,hkk,rfl⟩)
def rqL:List Int:= [69,68,65,132,129,160,95]
theorem u0O {z:Int}(h0:0≤z)(h1:z<7){j:Nat}(hj:j=z.toNat*1):([.val (.int .i64 69),.val (.int .i64 68),.val (.int .i64 65),.val (.int .i64 132),.val (.int .i64 129),.val (.int .i64 160),.val (.int .i64 95)]:List AV)[j]? =some (.val (.int .i64 (rqL.getD z.toNat 0))):=by
 subst hj
 rcases(show z=0∨z=1∨z=2∨z=3∨z=4∨z=5∨z=6 by omega)with rfl|rfl|rfl|rfl|rfl|rfl|rfl<;>rfl
def DM (q:Bool)(m:Msg):Prop:=(0≤m.ty∧m.ty≤2)∧(if q=true then 1≤m.code∧m.code≤7 else m.code∈rqL)∧(0≤m.id∧m.id<65536)∧(m.tok.length≤4∧m.pay.length≤20)∧Dr 5 m.opts
def w0N (q:Bool)(r:AV):Prop:= ∃m,DM q m∧r=a0U m
theorem DM.code {q:Bool}{m:Msg}(h:DM q m):q0J m.code∧rq m.code=q∧rs m.code= !q:=by
 obtain⟨-,h, -⟩:=h
 cases q
 ·rw[if_neg (by simp)]at h
  have: ∀c∈rqL,(0≤c∧c≤255∧(c/32=0∨c/32=2∨c/32=4∨c/32=5))∧rq c=false∧rs c=true:=by decide
  exact this _ h
 rw[if_pos rfl]at h
 refine⟨⟨by omega,by omega,?_⟩,?_,?_⟩
 ·unfold h0R;omega
 ·unfold rq;rw[decide_eq_true h.1,decide_eq_true (show m.code≤31 by omega)];rfl
 unfold rs;exact decide_eq_false (by omega)
theorem DM.val {q:Bool}{m:Msg}(h:DM q m):ValM m:=by
 obtain⟨c1, -, -⟩:=h.code
 obtain⟨h1,h2,h3,h4,h5⟩:=h
 have hn0:m.code≠0:=by
  cases q
  ·rw[if_neg (by simp)]at h2
   have: ∀c∈rqL,c≠0:=by decide
   exact this _ h2
  rw[if_pos rfl]at h2;omega
 refine⟨⟨⟨h1.1,by omega,c1.1,c1.2.1,c1.2.2⟩,⟨h3.1,by omega,by omega,by have:=h5.1.2.1;omega⟩,h5.1.1,fun h=>absurd h hn0,fun h=>by omega,by omega⟩,?_⟩
 have:=f0A (m:=m) (by omega) h4.2 h5.1.2.1 h5.1.1 h5.1.2.2
 omega
theorem w0R {ty code id:Int}{x p:List UInt8}:Coe (.agg [.val (.int .i64 ty),.val (.int .i64 code),.val (.int .i64 id),roB x,.val (.slice none 0 0),roB p]) (a0U ⟨ty,code,id,x,[],p⟩):=
 Coe.agg (.cons .rfl (.cons .rfl (.cons .rfl (.cons .rfl (.cons .nil (.cons .rfl .nil))))))
theorem i0e (b:Nat)(l:List Int)(k:Nat)(hl:l.length≤maxLen)(hk:k≤l.length):Sp Tryz.prog 15 [ptr b] [f0Z b l k] (Gen b l (w0N false)):=by
 skip
 refine yN Tryz.func15 _ Tryz.ntmps15 (fun w0 R0=> ?_)
 refine zD (zr ?_)
 refine zd ?_
 intro B1
 refine zI (zo (zD ?_))
 refine AW.regionA _ (Al.mk' (i:=14) (d:=3) (T:=29) _ rfl rfl rfl rfl rfl (by(dsimp only[List.set,cA,cN,List.take,List.drop];done)) (by rfl)) [(0,false),(2,false),(3,false),(7,false),(9,false),(11,false),(1,true),(4,true),(5,false),(6,false),(8,true),(10,true),(12,true),(13,false),(14,true),(15,true)] (by kernel_rfl) (by kernel_rfl) (by exact(by exact a0C 0 1 rfl rfl a0h)) ?_
 dsimp only[List.eraseIdx]
 refine vy ?_
 refine AN.op rfl yY rfl rfl rfl ?_
 refine vy ?_
 refine vy ?_
 refine vy ?_
 refine vy ?_
 refine AN.main _ rfl rfl (fun w0 R0=> ?_)
 refine AO.callMG 0 rfl rfl Tryz.func33 rfl rfl rfl rfl rfl rfl (b0i _ l _ _ hl (by assumption) (by omega) (by omega)) ?_
 rintro _ _ ⟨⟨z2,hz02,hz12,rfl⟩,kd2,hkd2,rfl⟩
 dsimp only[cA,cN,List.eraseIdx]
 refine AM.ok ?_
 dsimp only[a0z]
 refine AN.main _ rfl rfl (fun w0 R0=> ?_)
 refine AO.callMG 0 rfl rfl Tryz.func33 rfl rfl rfl rfl rfl rfl (b0i _ l _ _ hl (by assumption) (by omega) (by omega)) ?_
 rintro _ _ ⟨⟨z3,hz03,hz13,rfl⟩,kd3,hkd3,rfl⟩
 dsimp only[cA,cN,List.eraseIdx]
 refine AM.ok ?_
 dsimp only[a0z]
 refine AN.op rfl z6 rfl rfl rfl ?_
 refine AN.op rfl (O.loadR rfl rfl (by exact u0O (by assumption) (by assumption) rfl)) rfl rfl rfl ?_
 refine AN.main _ rfl rfl (fun w0 R0=> ?_)
 refine AO.callMG 0 rfl rfl Tryz.func33 rfl rfl rfl rfl rfl rfl (b0i _ l _ _ hl (by assumption) (by omega) (by omega)) ?_
 rintro _ _ ⟨⟨z4,hz04,hz14,rfl⟩,kd4,hkd4,rfl⟩
 dsimp only[cA,cN,List.eraseIdx]
 refine AM.ok ?_
 dsimp only[a0z]
 refine AN.main _ rfl rfl (fun w0 R0=> ?_)
 refine AO.callMG 0 rfl rfl Tryz.func24 rfl rfl rfl rfl rfl rfl (g0d _ l _ 4 hl (by assumption) (by omega)) ?_
 rintro _ _ ⟨⟨x5,hx5,rfl⟩,kd5,hkd5,rfl⟩
 dsimp only[cA,cN,List.eraseIdx]
 refine AM.ok ?_
 dsimp only[a0z]
 refine AN.main _ rfl rfl (fun w0 R0=> ?_)
 refine AO.callMG 0 rfl rfl Tryz.func24 rfl rfl rfl rfl rfl rfl (g0d _ l _ 20 hl (by assumption) (by omega)) ?_
 rintro _ _ ⟨⟨x6,hx6,rfl⟩,kd6,hkd6,rfl⟩
 dsimp only[cA,cN,List.eraseIdx]
 refine AM.ok ?_
 dsimp only[a0z]
 refine AN.op rfl z7 rfl rfl rfl ?_
 refine AN.box rfl ?_
 intro B7
 dsimp only[Al.he]
 refine AN.main _ rfl rfl (fun w0 R0=> ?_)
 refine za 0 (AM.okN ?_)
 dsimp only[a0z]
 refine AN.nil ?_
 dsimp only[cA,cN]
 refine zo (zD (zr ?_))
 refine zb ?_
 refine zB ?_
 refine AO.g ?_
 refine G.coe 19 rfl w0R ?_
 refine AO.u ?_
 refine AO.callMG 1 rfl rfl Tryz.func56 rfl rfl rfl rfl rfl rfl (j0K _ l _ ⟨z2,rqL.getD z3.toNat 0,z4,x5,[],x6⟩ hl (by assumption) rfl (by simp only;omega) (by simp only;omega)) ?_
 rintro _ _ ⟨⟨os8,hos8,rfl⟩,kd8,hkd8,rfl⟩
 dsimp only[cA,cN,List.eraseIdx]
 refine za 2 (zI (zo (xc ?_)))
 have hcc:rqL.getD z3.toNat 0∈rqL:=by
  have: ∀k,k<7→rqL.getD k 0∈rqL:=by decide
  exact this _ (by omega)
 have hdm:DM false ⟨z2,rqL.getD z3.toNat 0,z4,x5,os8,x6⟩:=⟨⟨hz02,by simp only;omega⟩,by rw[if_neg (by simp)];exact hcc,⟨hz04,hz14⟩,⟨hx5,hx6⟩,hos8⟩
 refine AQ.retCell rfl rfl mM (by(dsimp only[List.set,cA,cN,List.take,List.drop];rfl)) rfl ⟨_,by repeat(first|exact List.Sublist.slnil|refine List.Sublist.cons_cons _ ?_|refine List.Sublist.cons _ ?_),List.Perm.refl _⟩ (⟨⟨_,hdm,rfl⟩,_,hkd8,rfl⟩)
end Go.Proofs.YtojomcdjcpmnkaaGreat.By
namespace Go.Proofs.YtojomcdjcpmnkaaGreat.By
open Go.RowKit L A
attribute [local irreducible] AW AQ AO
theorem p0g (m:Msg)(os:List Opt)(h1:m.tok.length≤140737488355328)(h2:m.pay.length≤140737488355328)(h3:os.length≤1000000)(hat: ∀o∈os,o.val.length≤140737488355328):
  Sp Tryz.prog 161 [a0U m,roO os] [] (Is (a0U ⟨m.ty,m.code,m.id,m.tok,os,m.pay⟩)):=by
 refine yN Tryz.func161 _ Tryz.ntmps161 (fun w0 R0=> ?_)
 refine zD (zr ?_)
 refine ye ?_
 intro B1
 refine zd ?_
 intro B2
 refine zI (zo (zD ?_))
 refine yw 7 ?_
 simp only[cT,cZ,cD,cO]
 refine yr ?_
 refine zL ?_
 refine vS (xH rfl Tryz.func138 rfl rfl rfl (d0l _ (by assumption))) ?_
 refine yr ?_
 refine zL ?_
 refine vS (xH rfl Tryz.func138 rfl rfl rfl (d0l _ (by assumption))) ?_
 refine yr ?_
 refine wZ ?_
 simp only[a0f,cN,cA,cP]
 refine za 1 ?_
 refine zt ?_
 refine za 1 (zI (zo (zD (zr ?_))))
 refine zt ?_
 refine za 1 (zI (zo (zD (zD (zr ?_)))))
 refine zb ?_
 refine zW ?_
 refine zb (zI (zo (xj ?_)))
 refine AW.g ?_
 refine G.nilRow 96 2 ?_
 refine AW.u ?_
 refine zh [(2,_),(4,_),(16,_),(17,_)] (fun nn E H=> ∃(k:Nat) (V:Value),(k≤os.length)∧(V.oneCell'=true)∧nn=os.length-k∧E= [(18,.val (.int .i64 (k:Int)))]∧H= [.row V 96 2 k (a0x (os.take k)),.blk B2 29 6 [.val (.int .i64 0),.val (.int .i64 0),.val (.int .i64 0),.val (.slice none 0 0),.val (.slice none 0 0),.val (.slice none 0 0)],.blk B1 29 6 [.val (.int .i64 m.ty),.val (.int .i64 m.code),.val (.int .i64 m.id),roB m.tok,.val V,roB m.pay]]) _ (⟨0,_,by omega,rfl,rfl,rfl,rfl⟩) ?_
 rintro nn E H ⟨k,V,h4,hV,rfl,rfl,rfl⟩
 dsimp only[cA,cN]
 refine zD (zr ?_)
 refine zP (zI (zo (zD ?_)))
 refine yk (fun h5=> ?_) (fun h5=> ?_)<;>(try simp only[vX]at h5)
 ·have hk:k<os.length:=by omega
  have hv:(oat os k).val.length≤140737488355328:=hat _ (b0f Opt.none hk)
  have hsc:a0x (os.take (k+1))=a0x (os.take k)++[.val (.int .i64 (oat os k).num),roB (oat os k).val]:=by rw[a0g Opt.none hk,a0y]
  refine yX (zo (zD (xj (zD (zr ?_)))))
  refine z8 ?_
  refine yU ?_
  refine zd ?_
  intro B3
  refine za 0 (zI (zo ?_))
  refine yw 9 ?_
  simp only[cT,cZ,cD,cO]
  refine yr ?_
  refine zL ?_
  refine yr ?_
  refine yL ?_
  refine yr ?_
  refine yL ?_
  refine vS (xH rfl Tryz.func138 rfl rfl rfl (d0l _ (by assumption))) ?_
  refine xQ ?_
  refine vS yY ?_
  refine wZ ?_
  simp only[a0f,cN,cA,cP]
  refine zx 1 ?_
  intro V4 hV4
  refine zt ?_
  refine yA 3 (zI (xz (zo (zr ?_))))
  refine zA ?_
  refine zb (zI ?_)
  refine zJ _ _ _ (by omega) (⟨k+1,_,by omega,‹_›,rfl,rfl,by rw[hsc]⟩)
 obtain rfl:k=os.length:=by omega
 rw[List.take_length]
 refine AW.g ?_
 refine G.freezeCell 0 1 4 rfl rfl rfl ?_
 refine AW.u ?_
 refine wb ?_
 refine xY ?_
 refine x3 ?_
 refine xx (zo (zD (zr ?_)))
 refine zC ?_
 refine za 0 (zI (zo (xc ?_)))
 refine AQ.retCell rfl rfl (by repeat(exact List.Mem.head _)) (by(dsimp only[List.set,cA,cN,List.take,List.drop];rfl)) rfl nS (⟨rfl,rfl⟩)
theorem p0f {m:Msg}{os:List Opt}{N:Nat}{xs:List AV}(e1:N=os.length)(e2:xs=a0x os)(h1:m.tok.length≤140737488355328)(h2:m.pay.length≤140737488355328)(h3:os.length≤1000000)(hat: ∀o∈os,o.val.length≤140737488355328):
  Sp Tryz.prog 161 [a0U m,.ro false N xs] [] (Is (a0U ⟨m.ty,m.code,m.id,m.tok,os,m.pay⟩)):=by
 subst e1;subst e2;exact p0g m os h1 h2 h3 hat
theorem r0C (m:Msg)(n:Int)(vs:List (List UInt8))(h1:m.tok.length≤140737488355328)(h2:m.pay.length≤140737488355328)(h3:m.opts.length≤100000)(h4:vs.length≤100000)(hat: ∀o∈m.opts,o.val.length≤140737488355328)(hvs: ∀v∈vs,v.length≤140737488355328):
  Sp Tryz.prog 118 [a0U m,.val (.int .i64 n),r0j vs] [] (Is (a0U ⟨m.ty,m.code,m.id,m.tok,e0m m.opts n vs,m.pay⟩)):=by
 have hat2: ∀o∈e0m m.opts n vs,o.val.length≤140737488355328:=fun o ho=>by
  rcases d0f ho with h|⟨v,h,rfl⟩
  ·exact hat o h
  exact hvs v h
 have hsl:=h0k m.opts n vs
 refine yN Tryz.func118 _ Tryz.ntmps118 (fun w0 R0=> ?_)
 refine zD (zr ?_)
 refine ye ?_
 intro B1
 refine zd ?_
 intro B2
 refine zI (zo (zD (zr ?_)))
 refine zc ?_
 refine zc (zI (zo (zD (zD (zr ?_)))))
 refine zt ?_
 refine zn ?_
 refine zW ?_
 refine zb (zI (zo (xj ?_)))
 refine AW.g ?_
 refine G.nilRow 96 2 ?_
 refine AW.u ?_
 refine AW.g ?_
 refine G.nilRow 96 2 ?_
 refine AW.u ?_
 refine zh [(1,_),(2,_),(3,_),(6,_),(14,_),(15,_)] (fun nn E H=> ∃(k:Nat) (V V':Value),(k≤m.opts.length)∧(V.oneCell'=true)∧(V'.oneCell'=true)∧nn=m.opts.length-k∧E= [(7,.val V),(8,.val V'),(16,.val (.int .i64 (k:Int)))]∧H= [.row V 96 2 (ltO (m.opts.take k) n).length (a0x (ltO (m.opts.take k) n)),.row V' 96 2 (gtO (m.opts.take k) n).length (a0x (gtO (m.opts.take k) n)),.blk B2 29 6 [.val (.int .i64 0),.val (.int .i64 0),.val (.int .i64 0),.val (.slice none 0 0),.val (.slice none 0 0),.val (.slice none 0 0)],.blk B1 29 6 [.val (.int .i64 m.ty),.val (.int .i64 m.code),.val (.int .i64 m.id),roB m.tok,roO m.opts,roB m.pay]]) _ (⟨0,_,_,by omega,rfl,rfl,rfl,rfl,rfl⟩) ?_
 rintro nn E H ⟨k,V,V',h5,hV,hV',rfl,rfl,rfl⟩
 dsimp only[cA,cN]
 have hl1:=j0z (m.opts.take k) n
 have hl2:=j0C (m.opts.take k) n
 rw[List.length_take]at hl1 hl2
 refine zD (zr ?_)
 refine zP (zI (zo (zD ?_)))
 refine yk (fun h6=> ?_) (fun h6=> ?_)<;>(try simp only[vX]at h6)
 ·have hk:k<m.opts.length:=by omega
  have hsc:=k0J (m.opts.take k) (oat m.opts k) n
  have hsg:=k0M (m.opts.take k) (oat m.opts k) n
  rw[←a0g Opt.none hk]at hsc hsg
  refine yX (zo (zD (xj (zD (zr ?_)))))
  refine z8 ?_
  refine yU ?_
  refine zd ?_
  intro B3
  refine za 0 (zI (zo (xj (zD (zr ?_)))))
  refine zt ?_
  refine zy ?_
  refine zb ?_
  refine zP ?_
  refine zc (zI (zo ?_))
  refine yk (fun h7=> ?_) (fun h7=> ?_)<;>(try simp only[vX]at h7)
  ·rw[if_pos h7]at hsc
   rw[if_neg (by omega)]at hsg
   refine zr ?_
   refine zb ?_
   refine zB ?_
   refine zQ ?_
   intro B4
   refine AO.g ?_
   refine yc 0 27 ?_
   refine wd 27 ?_
   refine AO.u ?_
   dsimp only[List.eraseIdx]
   refine zx 1 ?_
   intro V5 hV5
   refine zc (zI (xz (xz (zo (zr ?_)))))
   refine zA ?_
   refine zb (zI ?_)
   refine zJ _ _ _ (by omega) (⟨k+1,_,V',by omega,‹_›,hV',rfl,rfl,by rw[hsc,hsg,a0y,cH]⟩)
  rw[if_neg (by omega)]at hsc
  refine zD (zr ?_)
  refine zt ?_
  refine zy ?_
  refine zb ?_
  refine yS ?_
  refine zc (zI (zo ?_))
  refine yk (fun h8=> ?_) (fun h8=> ?_)<;>(try simp only[vX]at h8)
  ·rw[if_pos h8]at hsg
   refine zr ?_
   refine zb ?_
   refine zB ?_
   refine zQ ?_
   intro B6
   refine AO.g ?_
   refine yc 0 36 ?_
   refine wd 36 ?_
   refine AO.u ?_
   dsimp only[List.eraseIdx]
   refine zx 2 ?_
   intro V7 hV7
   refine zc (zI (xz (xz (zo (zr ?_)))))
   refine zA ?_
   refine zb (zI ?_)
   refine zJ _ _ _ (by omega) (⟨k+1,V,_,by omega,hV,‹_›,rfl,rfl,by rw[hsc,hsg,a0y,cH]⟩)
  rw[if_neg (by omega)]at hsg
  refine yX (xz (xz (zo (zr ?_))))
  refine zA ?_
  refine zb (zI ?_)
  refine zJ _ _ _ (by omega) (⟨k+1,V,V',by omega,hV,hV',rfl,rfl,by rw[hsc,hsg]⟩)
 obtain rfl:k=m.opts.length:=by omega
 rw[List.take_length]at hl1 hl2⊢
 refine wb ?_
 refine xY ?_
 refine x3 ?_
 refine xx (zo (zD (zD (zr ?_))))
 refine zb ?_
 refine zW ?_
 refine zb (zI (zo (xj ?_)))
 refine zh [(1,_),(3,_),(6,_),(8,_),(39,_),(40,_)] (fun nn E H=> ∃(j:Nat) (V:Value),(j≤vs.length)∧(V.oneCell'=true)∧nn=vs.length-j∧E= [(7,.val V),(41,.val (.int .i64 (j:Int)))]∧H= [.row V 96 2 (ltO m.opts n++eqO n (vs.take j)).length (a0x (ltO m.opts n++eqO n (vs.take j))),.row V' 96 2 (gtO m.opts n).length (a0x (gtO m.opts n)),.blk B2 29 6 [.val (.int .i64 0),.val (.int .i64 0),.val (.int .i64 0),.val (.slice none 0 0),.val (.slice none 0 0),.val (.slice none 0 0)],.blk B1 29 6 [.val (.int .i64 m.ty),.val (.int .i64 m.code),.val (.int .i64 m.id),roB m.tok,roO m.opts,roB m.pay]]) _ (⟨0,_,by omega,hV,rfl,rfl,by rw[show ltO m.opts n++eqO n (vs.take 0)=ltO m.opts n by simp[eqO]]⟩) ?_
 rintro nn E H ⟨j,V,h8,hV,rfl,rfl,rfl⟩
 dsimp only[cA,cN]
 have hl3:(ltO m.opts n++eqO n (vs.take j)).length=(ltO m.opts n).length+j:=by rw[cH,h0I,List.length_take];omega
 refine zD (zr ?_)
 refine zP (zI (zo (zD ?_)))
 refine yk (fun h9=> ?_) (fun h9=> ?_)<;>(try simp only[vX]at h9)
 ·have hj:j<vs.length:=by omega
  have hsc:ltO m.opts n++eqO n (vs.take (j+1))=(ltO m.opts n++eqO n (vs.take j))++[⟨n,vat vs j⟩]:=by
   rw[a0g [] hj];simp[eqO]
  refine yX (zo (zD (xj (zD (zr ?_)))))
  refine z8 ?_
  refine vT (O.loadR rfl rfl (by exact e0P (by omega) (by omega))) ?_
  refine zc (zI (zo (zr ?_)))
  refine zb ?_
  refine zb ?_
  refine zb ?_
  refine zN ?_
  refine zQ ?_
  intro B8
  refine AO.g ?_
  refine yc 0 49 ?_
  refine wd 49 ?_
  refine AO.u ?_
  dsimp only[List.eraseIdx]
  refine zx 0 ?_
  intro V9 hV9
  refine zc (zI (xz (zo (zr ?_))))
  refine zA ?_
  refine zb (zI ?_)
  refine zq _ _ _ (by omega) (⟨j+1,_,by omega,‹_›,rfl,rfl,by rw[hsc,a0y,cH]⟩)
 obtain rfl:j=vs.length:=by omega
 rw[List.take_length]at hl3⊢
 have hlen:(ltO m.opts n++eqO n vs).length+(gtO m.opts n).length=(e0m m.opts n vs).length:=by rw[e0m,List.length_append (bs:=gtO m.opts n)]
 have hcell:a0x (ltO m.opts n++eqO n vs)++a0x (gtO m.opts n)=a0x (e0m m.opts n vs):=by rw[e0m,f0D (ltO m.opts n++eqO n vs)]
 have hone:=b0J (gtO m.opts n)
 refine wb ?_
 refine xY ?_
 refine x3 ?_
 refine xx (zo (zD ?_))
 refine vm [[(0,false),(1,false),(2,false),(3,true)],[(4,false)],[(5,true)]] ?_
 refine vc ?_
 try dsimp only[List.eraseIdx]
 refine zZ ?_
 refine yR ?_
 refine yR ?_
 refine xX _ (fun w0 R0=> ?_)
 refine AO.append' (i:=0) rfl rfl rfl rfl (by rfl) (by rfl) rfl rfl rfl (by exact SrcA.row TyD.ax mM (by(simp;done))) (by assumption) (by(unfold maxLen;omega)) (by omega) (by(dsimp only[List.set,cA,cN,List.take,List.drop];done)) (fun _=>by(dsimp only[List.set];done)) ?_
 intro V10 hV10
 refine AO.g ?_
 refine yH 0 [55] ?_
 refine AO.u ?_
 dsimp only[List.map,List.eraseIdx,cA,cN]
 refine AM.ok ?_
 dsimp only[a0z]
 refine vg ?_
 try dsimp only[cA,cN]
 refine vO ?_
 try dsimp only[List.eraseIdx]
 refine vU rfl (O.call rfl Tryz.func161 rfl rfl rfl (p0f (m:=m) (os:=e0m m.opts n vs) hlen hcell h1 h2 (by omega) hat2)) ?_
 refine vg ?_
 try dsimp only[cA,cN]
 refine AMS.go (by exact(by exact a0C 6 1 rfl rfl a0h)) ?_
 try dsimp only[List.eraseIdx]
 refine xX _ (fun w0 R0=> ?_)
 refine za 0 (AM.okN ?_)
 dsimp only[a0z]
 refine vg ?_
 try dsimp only[cA,cN]
 refine AMS.nil (zo (xc ?_))
 refine AQ.retCell rfl rfl (by repeat(exact List.Mem.head _)) (by(dsimp only[List.set,cA,cN,List.take,List.drop];rfl)) rfl nS (⟨rfl,rfl⟩)
structure Bd where
 ctx:List UInt8
 kid:List UInt8
 piv:Int
abbrev cBd (b:Bd):List AV:= [roB b.ctx,roB b.kid,.val (.int .i64 b.piv)]
abbrev g0j (b:Bd):AV:= .agg (cBd b)
def Bd.none:Bd:=⟨[],[],0⟩
abbrev b0R (n:Int):Prop:=0≤n∧n≤1099511627775
theorem v0a (n:Int):(decide (0≤n)&&decide (n≤1099511627775))=decide (b0R n):=by
 rw[Bool.eq_iff_iff];simp
theorem v0o (n:Int):(decide (n<0)||decide (1099511627775<n))=decide (¬b0R n):=by
 rw[Bool.eq_iff_iff];simp only[Bool.or_eq_true,cQ];omega
theorem h0w (n:Int):Sp Tryz.prog 58 [.val (.int .i64 n)] [] (Is (.val (.bool (decide (b0R n))))):=by
 have e:=v0a n
 refine yN Tryz.func58 _ Tryz.ntmps58 (fun w0 R0=> ?_)
 refine zD (zr ?_)
 refine zc (zI (zo (zD (zr ?_))))
 refine zb ?_
 refine ww ?_
 refine zb ?_
 refine yt ?_
 refine xF 6 ?_
 refine zV ?_
 refine zc (zI (zo (xc ?_)))
 refine vu rfl rfl nS (⟨congrArg (fun z=>AV.val (.bool z)) e,rfl⟩)
theorem j0r (n:Int):Sp Tryz.prog 64 [.val (.int .i64 n)] [] (Is (.val (.bool (decide (¬b0R n))))):=by
 have e:=v0o n
 refine yN Tryz.func64 _ Tryz.ntmps64 (fun w0 R0=> ?_)
 refine zD (zr ?_)
 refine zc (zI (zo (zD (zr ?_))))
 refine zb ?_
 refine zP ?_
 refine zb ?_
 refine yt ?_
 refine yp 6 ?_
 refine zE ?_
 refine zc (zI (zo (xc ?_)))
 refine vu rfl rfl nS (⟨congrArg (fun z=>AV.val (.bool z)) e,rfl⟩)
abbrev q0H (n:Int):Prop:=1≤n∧n≤31
theorem r0D (n:Int):Sp Tryz.prog 57 [.val (.int .i64 n)] [] (Is (.val (.bool (decide (q0H n))))):=by
 have e:(decide (1≤n)&&decide (n≤31))=decide (q0H n):=by rw[Bool.eq_iff_iff];simp
 refine yN Tryz.func57 _ Tryz.ntmps57 (fun w0 R0=> ?_)
 refine zD (zr ?_)
 refine zc (zI (zo (zD (zr ?_))))
 refine zb ?_
 refine ww ?_
 refine zb ?_
 refine yt ?_
 refine xF 6 ?_
 refine zV ?_
 refine zc (zI (zo (xc ?_)))
 refine vu rfl rfl nS (⟨congrArg (fun z=>AV.val (.bool z)) e,rfl⟩)
theorem k0A (n:Int):Sp Tryz.prog 91 [.val (.int .i64 n)] [] (Is (.val (.bool (decide (64≤n))))):=by
 refine yN Tryz.func91 _ Tryz.ntmps91 (fun w0 R0=> ?_)
 refine zD (zr ?_)
 refine zc (zI (zo (zD (zr ?_))))
 refine zb ?_
 refine ww ?_
 refine zc (zI (zo (xc ?_)))
 refine yE
theorem f0a (a b:List UInt8):Sp Tryz.prog 92 [roB a,roB b] [] (Is (.val (.bool (a==b)))):=by
 refine yN Tryz.func92 _ Tryz.ntmps92 (fun w0 R0=> ?_)
 refine zD (zr ?_)
 refine zc (zI (zo (zD (zr ?_))))
 refine zb ?_
 refine vT (O.convS rfl rfl (by rfl)) ?_
 refine zb ?_
 refine vT (O.convS rfl rfl (by rfl)) ?_
 refine vT (O.eqlS rfl rfl rfl (by rfl)) ?_
 refine zc (zI (zo (xc ?_)))
 refine vu rfl rfl nS (⟨by rw[a0R,a0R],rfl⟩)
theorem g0M (l:List UInt8)(hl:l.length≤1000000):Sp Tryz.prog 62 [roB l] [] (Is (roB l)):=by
 refine yN Tryz.func62 _ Tryz.ntmps62 (fun w0 R0=> ?_)
 refine zD (zr ?_)
 refine zc (zI (zo (zD (zr ?_))))
 refine zb ?_
 refine yD ?_
 intro V1 hV1
 refine zc (zI (zo (xc ?_)))
 refine AQ.g ?_
 refine yf 0 [2] ?_
 refine AQ.u ?_
 try dsimp only[List.map,List.eraseIdx,cA,cN]
 refine yE
def b0r (c:Cx)(b:Bd)(id:List UInt8)(piv:Int):List UInt8:=if piv= -1 then(b0z c.com b.kid b.piv).1 else(b0z c.com id piv).1
theorem g0W (c:Cx)(b:Bd)(id:List UInt8)(piv:Int)(hcl:c.com.length≤1000000):Sp Tryz.prog 131 [.val (.int .i64 piv),.rp (cX c) 0,.rp (cBd b) 0,.rp [roB id] 0] [] (Is (roB (b0r c b id piv))):=by
 refine yN Tryz.func131 _ Tryz.ntmps131 (fun w0 R0=> ?_)
 refine zD (zr ?_)
 refine zc (zI (zo (zD (zD (zr ?_)))))
 refine zb ?_
 refine z9 (zI (zo ?_))
 refine yk (fun h=> ?_) (fun h=> ?_)<;>(try simp only[vX]at h)
 ·rw[show b0r c b id piv=(b0z c.com b.kid b.piv).1 from if_pos h]
  refine zD (zr ?_)
  refine vT vR ?_
  refine vG ?_
  refine vT vR ?_
  refine vG ?_
  refine vT vR ?_
  refine vG ?_
  refine vT (xH rfl Tryz.func59 rfl rfl rfl (h0z _ _ _ hcl)) ?_
  refine zb ?_
  refine zO ?_
  refine zO ?_
  refine zc ?_
  refine zc (zI (zo (zD (zr ?_))))
  refine zb ?_
  refine zc (zI (zo (xc (xr ?_))))
  refine yE
 rw[show b0r c b id piv=(b0z c.com id piv).1 from if_neg h]
 refine yX (zo (zD (zr ?_)))
 refine vT vR ?_
 refine vG ?_
 refine vG ?_
 refine zb ?_
 refine vT (xH rfl Tryz.func59 rfl rfl rfl (h0z _ _ _ hcl)) ?_
 refine zb ?_
 refine zO ?_
 refine zO ?_
 refine zc ?_
 refine zc (zI (zo (zD (zr ?_))))
 refine zb ?_
 refine zc (zI (zo (xc ?_)))
 refine yE
theorem i0O (c:Cx)(b:Bd)(id:List UInt8):Sp Tryz.prog 78 [g0p c,g0j b,roB id] [] (Is (.fn (.func 131) [.rp (cX c) 0,.rp (cBd b) 0,.rp [roB id] 0])):=by
 refine yN Tryz.func78 _ Tryz.ntmps78 (fun w0 R0=> ?_)
 refine zD (zr ?_)
 refine ye ?_
 intro B1
 refine ye ?_
 intro B2
 refine ye ?_
 intro B3
 refine zc (zI (zo (zD (zr ?_))))
 refine AO.g ?_
 refine G.freezePtr 2 3 rfl rfl ?_
 refine AO.u ?_
 dsimp only[List.eraseIdx]
 refine AO.g ?_
 refine G.freezePtr 1 4 rfl rfl ?_
 refine AO.u ?_
 dsimp only[List.eraseIdx]
 refine AO.g ?_
 refine G.freezePtr 0 5 rfl rfl ?_
 refine AO.u ?_
 dsimp only[List.eraseIdx]
 refine vT (O.fn rfl rfl) ?_
 refine zc (zI (zo (xc ?_)))
 refine yE
def a0S (m:Msg):Cmp×Int:=match b0B m.opts 9 with
 | []=>(.zero,10)
 | [v]=>n0S v
 |_=>(.zero,7)
theorem m0R {m:Msg}(h:(b0B m.opts 9).length=0):a0S m=(.zero,10):=by
 unfold a0S;rw[List.eq_nil_of_length_eq_zero h]
theorem m0Q {m:Msg}(h:(b0B m.opts 9).length=1):a0S m=n0S (vat (b0B m.opts 9) 0):=by
 unfold a0S
 generalize b0B m.opts 9=l at*
 match l,h with
 | [v],_=>rfl
theorem m0P {m:Msg}(h0:(b0B m.opts 9).length≠0)(h1:(b0B m.opts 9).length≠1):a0S m=(.zero,7):=by
 unfold a0S
 generalize b0B m.opts 9=l at*
 match l,h0,h1 with
 |x::y::l,_,_=>rfl
abbrev SmO (m:Msg):Prop:=m.opts.length≤1000000∧ ∀o∈m.opts,o.val.length≤140737488355328
theorem o0I (m:Msg)(h:SmO m):Sp Tryz.prog 22 [a0U m] [] (Is (t0f (a0S m))):=by
 refine yN Tryz.func22 _ Tryz.ntmps22 (fun w0 R0=> ?_)
 refine zD (zr ?_)
 refine ye ?_
 intro B1
 refine zd ?_
 intro B2
 refine zc (zI (zo (zD (zr ?_))))
 refine zC ?_
 refine vT (xH rfl Tryz.func71 rfl rfl rfl (u0h _ _ h.1 h.2)) ?_
 refine zc (zI (zo (zD (xj (zD (zr ?_))))))
 refine zb ?_
 refine zW ?_
 refine z9 ?_
 refine zc (zI (zo ?_))
 refine yk (fun h0=> ?_) (fun h0=> ?_)<;>(try simp only[vX]at h0)
 ·rw[m0R (by omega)]
  refine zD (zr ?_)
  refine zN ?_
  refine za 0 ?_
  refine zc (zI (zo (xc ?_)))
  refine wi (xr ?_)
  refine x8 zT zj (⟨rfl,rfl⟩)
 refine zD (zr ?_)
 refine zb ?_
 refine zW ?_
 refine yS ?_
 refine zc (zI (zo ?_))
 refine yk (fun h1=> ?_) (fun h1=> ?_)<;>(try simp only[vX]at h1)
 ·rw[m0P (by omega) (by omega)]
  refine zD (zr ?_)
  refine zN ?_
  refine za 0 ?_
  refine zc (zI (zo (xc ?_)))
  refine wi (xr ?_)
  refine x8 zT zj (⟨rfl,rfl⟩)
 rw[m0Q (by omega)]
 refine yX (xz (zo (zD (zr ?_))))
 refine zb ?_
 refine z8 ?_
 refine vT (O.loadR rfl rfl (by exact e0P (k:=0) (by omega) rfl)) ?_
 refine vT (xH rfl Tryz.func72 rfl rfl rfl (j0q _)) ?_
 refine zO ?_
 refine zO ?_
 refine za 0 ?_
 refine zc (zI (zo (xc ?_)))
 refine AQ.retCT rfl rfl rfl (by repeat(exact List.Mem.head _)) (by rfl) rfl nS (⟨rfl,rfl⟩)
theorem o0k (os:List Opt)(n:Int)(k:Nat):(b0B (os.take k) n).length≤k:=Nat.le_trans (d0r _ _) (by rw[List.length_take];omega)
theorem p0h (m:Msg)(h:SmO m):Sp Tryz.prog 21 [a0U m] [] (Is (t0f (a0S m))):=by
 obtain⟨h3,hat⟩:=h
 refine yN Tryz.func21 _ Tryz.ntmps21 (fun w0 R0=> ?_)
 refine zD (zr ?_)
 refine ye ?_
 intro B1
 refine zd ?_
 intro B2
 refine zc (zI (zo (zD (zr ?_))))
 refine zc (zI (zo (zD (zD (zr ?_)))))
 refine zt ?_
 refine zn ?_
 refine zW ?_
 refine zb (zI (zo (xj ?_)))
 refine AW.g ?_
 refine G.nilRow 22 1 ?_
 refine AW.u ?_
 refine zh [(2,_),(8,_),(9,_)] (fun nn E H=> ∃(k:Nat) (V:Value),(k≤m.opts.length)∧(V.oneCell'=true)∧nn=m.opts.length-k∧E= [(4,.val V),(10,.val (.int .i64 (k:Int)))]∧H= [.row V 22 1 (b0B (m.opts.take k) 9).length (bsA (b0B (m.opts.take k) 9)),.blk B2 52 6 [.val (.int .i64 0),.val (.bool false),.val (.slice none 0 0),.val (.bool false),.val (.slice none 0 0),.val (.bool false)],.blk B1 29 6 [.val (.int .i64 m.ty),.val (.int .i64 m.code),.val (.int .i64 m.id),roB m.tok,roO m.opts,roB m.pay]]) _ (⟨0,_,by omega,rfl,rfl,rfl,rfl⟩) ?_
 rintro nn E H ⟨k,V,h4,hV,rfl,rfl,rfl⟩
 dsimp only[cA,cN]
 have hl:=o0k m.opts 9 k
 refine zD (zr ?_)
 refine zP (zI (zo (zD ?_)))
 refine yk (fun h5=> ?_) (fun h5=> ?_)<;>(try simp only[vX]at h5)
 ·have hk:k<m.opts.length:=by omega
  have hsc:=g0i (m.opts.take k) (oat m.opts k) 9
  rw[←a0g Opt.none hk]at hsc
  refine yX (zo (zD (xj (zD (zr ?_)))))
  refine z8 ?_
  refine yU ?_
  refine zd ?_
  intro B3
  refine za 0 (zI (zo (zD (zr ?_))))
  refine zt ?_
  refine zy ?_
  refine z9 (zI (zo ?_))
  refine yk (fun h6=> ?_) (fun h6=> ?_)<;>(try simp only[vX]at h6)
  ·rw[if_pos h6]at hsc
   refine zr ?_
   refine zb ?_
   refine zt ?_
   refine zy ?_
   refine zQ ?_
   intro B4
   refine AO.g ?_
   refine yc 0 20 ?_
   refine wd 20 ?_
   refine AO.u ?_
   dsimp only[List.eraseIdx]
   refine zx 1 ?_
   intro V5 hV5
   refine zc (zI (xz (zo (zr ?_))))
   refine zA ?_
   refine zb (zI ?_)
   refine zJ _ _ _ (by omega) (⟨k+1,_,by omega,‹_›,rfl,rfl,by rw[hsc,f0g,cH]⟩)
  rw[if_neg h6]at hsc
  refine yX (xz (zo (zr ?_)))
  refine zA ?_
  refine zb (zI ?_)
  refine zJ _ _ _ (by omega) (⟨k+1,V,by omega,hV,rfl,rfl,by rw[hsc]⟩)
 obtain rfl:k=m.opts.length:=by omega
 rw[List.take_length]at*
 refine AW.g ?_
 refine yf 0 [4] ?_
 refine AW.u ?_
 try dsimp only[List.map,List.eraseIdx,cA,cN]
 refine wb ?_
 refine xY ?_
 refine x3 ?_
 refine xx (zo (zD (zD (zr ?_))))
 refine zb ?_
 refine zW (zI (zo (xj (zD (zr ?_)))))
 refine z9 ?_
 refine zc (zI (zo ?_))
 refine yk (fun h0=> ?_) (fun h0=> ?_)<;>(try simp only[vX]at h0)
 ·rw[m0R (by omega)]
  refine zD (zr ?_)
  refine zN ?_
  refine za 0 ?_
  refine zc (zI (zo (xc ?_)))
  refine wi (xr ?_)
  refine x8 zT zj (⟨rfl,rfl⟩)
 refine zD (zr ?_)
 refine z9 ?_
 refine zc (zI (zo ?_))
 refine yk (fun h1=> ?_) (fun h1=> ?_)<;>(try simp only[vX]at h1)
 ·rw[m0Q (by omega)]
  refine zD (zr ?_)
  refine zb ?_
  refine z8 ?_
  refine vT (O.loadR rfl rfl (by exact e0P (k:=0) (by omega) rfl)) ?_
  refine vT (xH rfl Tryz.func70 rfl rfl rfl (l0U _)) ?_
  refine zO ?_
  refine zO ?_
  refine za 0 ?_
  refine zc (zI (zo (xc ?_)))
  refine wi (xr ?_)
  refine AQ.retCT rfl rfl rfl (by repeat(exact List.Mem.head _)) (by rfl) rfl nS (⟨rfl,rfl⟩)
 rw[m0P (by omega) (by omega)]
 refine yX (xz (zo (zD (zr ?_))))
 refine zN ?_
 refine za 0 ?_
 refine zc (zI (zo (xc ?_)))
 refine x8 zT zj (⟨rfl,rfl⟩)
set_option maxHeartbeats 8000000 in
theorem m0C (m:Msg):Sp Tryz.prog 65 [a0U m] [] (Is (u0Q (a0u m))):=by
 have bT: ∀{b:Bool},b=true→rq m.code=b→True:=fun _ _=>trivial
 refine yN Tryz.func65 _ Tryz.ntmps65 (fun w0 R0=> ?_)
 refine zD (zr ?_)
 refine ye ?_
 intro B1
 refine zd ?_
 intro B2
 refine zd ?_
 intro B3
 refine zc (zI (zo (zD (zD (zr ?_)))))
 refine zt ?_
 refine zn ?_
 refine vT (xH rfl Tryz.func63 rfl rfl rfl (b0O m.code)) ?_
 refine xq ?_
 refine zb ?_
 refine zM ?_
 refine zX 20 ?_
 refine AO.opG rfl rfl rfl (fun hp=>wW 21 rfl (by exact hp) (xH rfl Tryz.func83 rfl rfl rfl (b0H m.code))) ?_
 refine yZ 22 ?_
 refine zV (zI (zo ?_))
 refine yk (fun h=> ?_) (fun h=> ?_)<;>(try simp only[vX]at h)
 ·have e:a0u m=(Msg.none,Msg.none,1):=if_neg (by
   rintro⟨hv,hc⟩
   simp[h.1,h.2]at hc)
  refine zD (zr ?_)
  refine zN ?_
  refine zN ?_
  refine za 1 ?_
  refine za 0 ?_
  refine zc (zI (zo (xc (xr ?_))))
  refine x8 y7 zj (e0r e)
 have hc:rq m.code=true∨rs m.code=true:=by cases hq:rq m.code<;>simp_all
 refine yX (zo (zD (zD (zr ?_))))
 refine zC ?_
 refine vT (xH rfl Tryz.func120 rfl rfl rfl (j0m m)) ?_
 refine zb ?_
 refine zO ?_
 refine zO ?_
 refine zc ?_
 refine zc (zI (zo (zD (zr ?_))))
 refine zb ?_
 refine y1 (zI (zo ?_))
 refine yk (fun hx=> ?_) (fun hx=> ?_)<;>(try simp only[vX]at hx)
 ·have e:a0u m=(Msg.none,Msg.none,1):=if_neg (fun hv=>by rw[g0S hv.1]at hx;exact hx rfl)
  refine zD (zr ?_)
  refine zN ?_
  refine zN ?_
  refine za 1 ?_
  refine za 0 ?_
  refine zc (zI (zo (xc (xr ?_))))
  refine x8 y7 zj (e0r e)
 have hv:ValM m:=Classical.byContradiction fun hv=>by rw[g0T hv]at hx;cases hx
 obtain⟨s1,s2,s3,s4⟩:=hv.sm
 refine yX (zo (zD ?_))
 refine yw 7 ?_
 simp only[cT,cZ,cD,cO]
 refine yr ?_
 refine zL ?_
 refine yr ?_
 refine zL ?_
 refine vS (xH rfl Tryz.func69 rfl rfl rfl (a0s _ (by omega))) ?_
 refine xQ ?_
 refine yV ?_
 refine wZ ?_
 simp only[a0f,cN,cA,cP]
 rintro _ _ ⟨B4,rfl,rfl⟩
 simp only[cA,cN]
 refine za 0 (zI (zo (zD ?_)))
 refine yw 9 ?_
 simp only[cT,cZ,cD,cO]
 refine yr ?_
 refine zL ?_
 refine yr ?_
 refine zL ?_
 refine yr ?_
 refine zL ?_
 refine vS (xH rfl Tryz.func69 rfl rfl rfl (a0s _ (by omega))) ?_
 refine xQ ?_
 refine yV ?_
 refine wZ ?_
 simp only[a0f,cN,cA,cP]
 rintro _ _ ⟨B5,rfl,rfl⟩
 simp only[cA,cN]
 refine za 0 (zI (zo (zD (zr ?_))))
 refine zc ?_
 refine zc (zI (zo (zD (zD (zr ?_)))))
 refine zt ?_
 refine zn ?_
 refine zW ?_
 refine zb (zI (zo (xj ?_)))
 refine AW.g ?_
 refine G.nilRow 96 2 ?_
 refine AW.u ?_
 refine AW.g ?_
 refine G.nilRow 96 2 ?_
 refine AW.u ?_
 refine xK [(1,_),(2,_),(3,_),(7,_),(8,_),(51,_),(52,_)] (fun nn E H=> ∃(k:Nat) (V V':Value),(k≤m.opts.length)∧(V.oneCell'=true)∧(V'.oneCell'=true)∧nn=m.opts.length-k∧E= [(9,.val (.bool (c0P (m.opts.take k)))),(10,.val (.bool (o0c (m.opts.take k)))),(53,.val (.int .i64 (k:Int)))]∧H= [.row V 96 2 (inL m.code (m.opts.take k)).length (a0x (inL m.code (m.opts.take k))),.row V' 96 2 (e0t (m.opts.take k)).length (a0x (e0t (m.opts.take k))),.blk B4 29 6 [.val (.int .i64 0),.val (.int .i64 m.code),.val (.int .i64 0),.val (.slice none 0 0),.val V,roB m.pay],.blk B5 29 6 [.val (.int .i64 m.ty),.val (.int .i64 0),.val (.int .i64 m.id),roB m.tok,.val V',.val (.slice none 0 0)],.blk B3 29 6 [.val (.int .i64 0),.val (.int .i64 0),.val (.int .i64 0),.val (.slice none 0 0),.val (.slice none 0 0),.val (.slice none 0 0)],.blk B2 29 6 [.val (.int .i64 0),.val (.int .i64 0),.val (.int .i64 0),.val (.slice none 0 0),.val (.slice none 0 0),.val (.slice none 0 0)],.blk B1 29 6 [.val (.int .i64 m.ty),.val (.int .i64 m.code),.val (.int .i64 m.id),roB m.tok,roO m.opts,roB m.pay]]) _ (⟨0,_,_,by omega,rfl,rfl,rfl,rfl,rfl⟩) ?_
 rintro nn E H ⟨k,V,V',hk,hV,hV',rfl,rfl,rfl⟩
 dsimp only[cA,cN]
 have hl1:=n0A m.code (m.opts.take k)
 have hl2:=h0t (m.opts.take k)
 rw[List.length_take]at hl1 hl2
 refine zD (zr ?_)
 refine zP (zI (zo (zD ?_)))
 refine yk (fun h2=> ?_) (fun h2=> ?_)<;>(try simp only[vX]at h2)
 ·have hkk:k<m.opts.length:=by omega
  have hv4:(oat m.opts k).val.length≤140737488355328:=by have:=s4 k hkk;omega
  have hci:=q0w (oat m.opts k).num
  refine yX (zo (zD (xj (zD (zr ?_)))))
  refine z8 ?_
  refine yU ?_
  refine zd ?_
  intro B6
  refine za 0 (zI (zo (zD (zr ?_))))
  refine zt ?_
  refine zy ?_
  refine vT (xH rfl Tryz.func121 rfl rfl rfl (f0z _)) ?_
  refine zc (zI (zo (zD (zr ?_))))
  refine zb ?_
  refine zb ?_
  refine zM ?_
  refine zv 62 ?_
  refine y8 63 ?_
  refine zE ?_
  refine zb ?_
  refine zM ?_
  refine zv 67 ?_
  refine y8 68 ?_
  refine zE ?_
  refine zc (zI (zo (zD (zD (zr ?_)))))
  refine zb ?_
  refine y1 (zI (zo ?_))
  have hb':o0c (m.opts.take (k+1))=(o0c (m.opts.take k)||decide ((oat m.opts k).num=9)||decide ((oat m.opts k).num=35)):=by rw[a0g Opt.none hkk,i0U,Bool.or_assoc];congr 1;exact Bool.decide_or _ _
  have hw':c0P (m.opts.take (k+1))=(c0P (m.opts.take k)||decide ((oat m.opts k).num=6)):=by rw[a0g Opt.none hkk,f0o]
  have hin:=k0L m.code (m.opts.take k) (oat m.opts k)
  have hou:=i0p (m.opts.take k) (oat m.opts k)
  rw[←a0g Opt.none hkk]at hin hou
  refine xU [(1,_),(2,_),(3,_),(7,_),(8,_),(9,_),(10,_),(12,_),(13,_),(51,_),(52,_),(53,_)] (fun E H=> ∃(W:Value),(W.oneCell'=true)∧E= []∧H= [.blk B6 96 2 [.val (.int .i64 (oat m.opts k).num),roB (oat m.opts k).val],.row W 96 2 (inL m.code (m.opts.take (k+1))).length (a0x (inL m.code (m.opts.take (k+1)))),.row V' 96 2 (e0t (m.opts.take k)).length (a0x (e0t (m.opts.take k))),.blk B4 29 6 [.val (.int .i64 0),.val (.int .i64 m.code),.val (.int .i64 0),.val (.slice none 0 0),.val W,roB m.pay],.blk B5 29 6 [.val (.int .i64 m.ty),.val (.int .i64 0),.val (.int .i64 m.id),roB m.tok,.val V',.val (.slice none 0 0)],.blk B3 29 6 [.val (.int .i64 0),.val (.int .i64 0),.val (.int .i64 0),.val (.slice none 0 0),.val (.slice none 0 0),.val (.slice none 0 0)],.blk B2 29 6 [.val (.int .i64 0),.val (.int .i64 0),.val (.int .i64 0),.val (.slice none 0 0),.val (.slice none 0 0),.val (.slice none 0 0)],.blk B1 29 6 [.val (.int .i64 m.ty),.val (.int .i64 m.code),.val (.int .i64 m.id),roB m.tok,roO m.opts,roB m.pay]]) (fun h71=> ?_) (fun h71=> ?_) ?_<;>try(try simp only[vX]at h71)
  ·rw[if_pos (by omega)]at hin
   refine zD (zr ?_)
   refine zt ?_
   refine zy ?_
   refine vT (xH rfl Tryz.func69 rfl rfl rfl (a0s _ (by assumption))) ?_
   refine zc (zI (zo (zD (zD (zr ?_)))))
   refine zt ?_
   refine zy ?_
   refine z9 ?_
   refine zb ?_
   refine zM ?_
   refine zX 80 ?_
   refine AO.opG rfl rfl rfl (fun hp=>wW 81 rfl (by exact hp) (xH rfl Tryz.func83 rfl rfl rfl (b0H m.code))) ?_
   refine zV (zI (zo ?_))
   refine yk (fun h81=> ?_) (fun h81=> ?_)<;>(try simp only[vX]at h81)
   ·have hi2:inO m.code (oat m.opts k)=⟨(oat m.opts k).num,[]⟩:=if_pos h81
    rw[hi2]at hin
    refine zr ?_
    refine zc (zI (zo (zr ?_)))
    refine zt ?_
    refine zn ?_
    refine zt ?_
    refine zy ?_
    refine zb ?_
    refine zN ?_
    refine zQ ?_
    intro B7
    refine AO.g ?_
    refine yc 0 90 ?_
    refine wd 90 ?_
    refine AO.u ?_
    dsimp only[List.eraseIdx]
    refine zx 1 ?_
    intro V8 hV8
    refine zt ?_
    refine yA 3 (zI ?_)
    refine AQ.g ?_
    refine G.coeRow 1 _ (a0x (inL m.code (m.opts.take k))++[.val (.int .i64 (oat m.opts k).num),roB []]) rfl rfl (CoeL.app CoeL.refl (CoeL.cons Coe.rfl (CoeL.cons Coe.nil CoeL.nil))) ?_
    refine AQ.u ?_
    refine xw _ _ (⟨_,‹_›,rfl,by rw[hin,a0y,cH]⟩)
   have hi2:inO m.code (oat m.opts k)=oat m.opts k:=if_neg (fun hh=>by have:=h81 hh.1;rw[hh.2]at this;cases this)
   rw[hi2]at hin
   refine yX (zo (zr ?_))
   refine zt ?_
   refine zn ?_
   refine zt ?_
   refine zy ?_
   refine zb ?_
   refine zN ?_
   refine zQ ?_
   intro B9
   refine AO.g ?_
   refine yc 0 90 ?_
   refine wd 90 ?_
   refine AO.u ?_
   dsimp only[List.eraseIdx]
   refine zx 1 ?_
   intro V10 hV10
   refine zt ?_
   refine yA 3 (zI ?_)
   refine xw _ _ (⟨_,‹_›,rfl,by rw[hin,a0y,cH]⟩)
  ·rw[if_neg (by omega)]at hin
   refine yX ?_
   refine xw _ _ (⟨V,hV,rfl,by rw[hin]⟩)
  rintro E1 H1 ⟨W,hW,rfl,rfl⟩
  dsimp only[cA,cN]
  refine zo (zD (zD (zr ?_)))
  refine zb ?_
  refine z9 ?_
  refine zb ?_
  refine zM ?_
  refine zv 96 ?_
  refine y8 97 ?_
  refine zE (zI (zo ?_))
  refine xU [(1,_),(2,_),(3,_),(7,_),(8,_),(9,_),(10,_),(12,_),(51,_),(52,_),(53,_)] (fun E H=> ∃(W':Value),(W'.oneCell'=true)∧E= []∧H= [.blk B6 96 2 [.val (.int .i64 (oat m.opts k).num),roB (oat m.opts k).val],.row W 96 2 (inL m.code (m.opts.take (k+1))).length (a0x (inL m.code (m.opts.take (k+1)))),.row W' 96 2 (e0t (m.opts.take (k+1))).length (a0x (e0t (m.opts.take (k+1)))),.blk B4 29 6 [.val (.int .i64 0),.val (.int .i64 m.code),.val (.int .i64 0),.val (.slice none 0 0),.val W,roB m.pay],.blk B5 29 6 [.val (.int .i64 m.ty),.val (.int .i64 0),.val (.int .i64 m.id),roB m.tok,.val W',.val (.slice none 0 0)],.blk B3 29 6 [.val (.int .i64 0),.val (.int .i64 0),.val (.int .i64 0),.val (.slice none 0 0),.val (.slice none 0 0),.val (.slice none 0 0)],.blk B2 29 6 [.val (.int .i64 0),.val (.int .i64 0),.val (.int .i64 0),.val (.slice none 0 0),.val (.slice none 0 0),.val (.slice none 0 0)],.blk B1 29 6 [.val (.int .i64 m.ty),.val (.int .i64 m.code),.val (.int .i64 m.id),roB m.tok,roO m.opts,roB m.pay]]) (fun h95=> ?_) (fun h95=> ?_) ?_<;>try(try simp only[vX]at h95)
  ·rw[if_pos h95]at hou
   refine yw 9 ?_
   simp only[cT,cZ,cD,cO]
   refine yr ?_
   refine zL ?_
   refine yr ?_
   refine yL ?_
   refine yr ?_
   refine yL ?_
   refine vS (xH rfl Tryz.func69 rfl rfl rfl (a0s _ (by assumption))) ?_
   refine xQ ?_
   refine vS yY ?_
   refine wZ ?_
   simp only[a0f,cN,cA,cP]
   refine zx 2 ?_
   intro V11 hV11
   refine zt ?_
   refine yA 4 (zI ?_)
   refine xw _ _ (⟨_,‹_›,rfl,by rw[hou,a0y,cH]⟩)
  ·rw[if_neg (by omega)]at hou
   refine yX ?_
   refine xw _ _ (⟨V',hV',rfl,by rw[hou]⟩)
  rintro E1 H1 ⟨W',hW',rfl,rfl⟩
  dsimp only[cA,cN]
  refine zo (zr ?_)
  refine zb ?_
  refine zb ?_
  refine zM ?_
  refine zv 113 ?_
  refine y8 114 ?_
  refine zE ?_
  refine zc (zI (xz (zo (zr ?_))))
  refine zA ?_
  refine zb (zI ?_)
  refine zJ _ _ _ (by omega) (⟨k+1,W,W',by omega,hW,hW',rfl,by rw[hw',hb'],rfl⟩)
 obtain rfl:k=m.opts.length:=by omega
 rw[List.take_length]at hl1 hl2⊢
 refine wb ?_
 refine xY ?_
 refine x3 ?_
 refine xx (zo (zD (zD (zr ?_))))
 refine zb (zI (zo ?_))
 refine yk (fun hb=> ?_) (fun hb=> ?_)<;>(try simp only[vX]at hb)
 ·have e:a0u m=(Msg.none,Msg.none,15):=by rw[a0u,if_pos ⟨hv,hc⟩,if_pos hb]
  refine zD (zr ?_)
  refine zN ?_
  refine zN ?_
  refine za 5 ?_
  refine za 4 ?_
  refine zc (zI (zo (xc (xr ?_))))
  refine x8 xP zj (e0r e)
 have hnb: ¬o0c m.opts=true:=by rw[hb];simp
 have e0:a0u m=(inM m,n0h m,0):=by rw[a0u,if_pos ⟨hv,hc⟩,if_neg hnb]
 refine AW.g ?_
 refine G.freezeCell 0 1 4 rfl rfl rfl ?_
 refine AW.u ?_
 refine AW.g ?_
 refine G.freezeCell 0 1 4 rfl rfl rfl ?_
 refine AW.u (yX (zo (zD (xj (zD (zr ?_))))))
 refine zt ?_
 refine zn ?_
 refine vT (xH rfl Tryz.func63 rfl rfl rfl (b0O m.code)) ?_
 refine zb ?_
 refine yt ?_
 refine zV ?_
 refine zc (zI (zo ?_))
 refine yk (fun ha=> ?_) (fun ha=> ?_)<;>(try simp only[vX]at ha)
 ·have e1:i0r m=5:=by rw[i0r,if_pos ha.1,if_pos ha.2]
  have e:a0u m=(inM m,⟨m.ty,5,m.id,m.tok,e0t m.opts,[]⟩,0):=by rw[e0,n0h,e1]
  refine zr ?_
  refine zt ?_
  refine za 1 (zI (xz (zo (zD ?_))))
  refine x0 [(0,false),(1,false),(2,true),(3,true),(4,false)] ?_
  dsimp only[List.eraseIdx]
  refine yO ?_
  refine zZ ?_
  refine xX _ (fun w0 R0=> ?_)
  refine za 0 (AM.okN ?_)
  dsimp only[a0z]
  refine xX _ (fun w0 R0=> ?_)
  refine za 1 (AM.okN ?_)
  dsimp only[a0z]
  refine wM ?_
  refine vg ?_
  dsimp only[cA,cN]
  refine zo (xc ?_)
  refine x8 yh zj (e0r e)
 refine zD (zr ?_)
 refine zt ?_
 refine zn ?_
 refine vT (xH rfl Tryz.func63 rfl rfl rfl (b0O m.code)) ?_
 refine zc (zI (zo ?_))
 refine yk (fun hd=> ?_) (fun hd=> ?_)<;>(try simp only[vX]at hd)
 ·have e1:i0r m=2:=by rw[i0r,if_pos hd,if_neg (by rw[ha hd];simp)]
  have e:a0u m=(inM m,⟨m.ty,2,m.id,m.tok,e0t m.opts,[]⟩,0):=by rw[e0,n0h,e1]
  refine zr ?_
  refine zt ?_
  refine za 1 (zI (xz (zo (zD ?_))))
  refine x0 [(0,false),(1,false),(2,true),(3,true),(4,false)] ?_
  dsimp only[List.eraseIdx]
  refine yO ?_
  refine zZ ?_
  refine xX _ (fun w0 R0=> ?_)
  refine za 0 (AM.okN ?_)
  dsimp only[a0z]
  refine xX _ (fun w0 R0=> ?_)
  refine za 1 (AM.okN ?_)
  dsimp only[a0z]
  refine wM ?_
  refine vg ?_
  dsimp only[cA,cN]
  refine zo (xc ?_)
  refine x8 yh zj (e0r e)
 refine zD (zr ?_)
 refine zb ?_
 refine zc (zI (zo ?_))
 refine yk (fun hf=> ?_) (fun hf=> ?_)<;>(try simp only[vX]at hf)
 ·have e1:i0r m=69:=by rw[i0r,if_neg (by rw[hd];simp),if_pos hf]
  have e:a0u m=(inM m,⟨m.ty,69,m.id,m.tok,e0t m.opts,[]⟩,0):=by rw[e0,n0h,e1]
  refine zr ?_
  refine zt ?_
  refine za 1 (zI (xz (zo (zD ?_))))
  refine x0 [(0,false),(1,false),(2,true),(3,true),(4,false)] ?_
  dsimp only[List.eraseIdx]
  refine yO ?_
  refine zZ ?_
  refine xX _ (fun w0 R0=> ?_)
  refine za 0 (AM.okN ?_)
  dsimp only[a0z]
  refine xX _ (fun w0 R0=> ?_)
  refine za 1 (AM.okN ?_)
  dsimp only[a0z]
  refine wM ?_
  refine vg ?_
  dsimp only[cA,cN]
  refine zo (xc ?_)
  refine x8 yh zj (e0r e)
 have e1:i0r m=68:=by rw[i0r,if_neg (by rw[hd];simp),if_neg (by rw[hf];simp)]
 have e:a0u m=(inM m,⟨m.ty,68,m.id,m.tok,e0t m.opts,[]⟩,0):=by rw[e0,n0h,e1]
 refine zr ?_
 refine zt ?_
 refine za 1 (zI (xz (zo (zD ?_))))
 refine x0 [(0,false),(1,false),(2,true),(3,true),(4,false)] ?_
 dsimp only[List.eraseIdx]
 refine yO ?_
 refine zZ ?_
 refine xX _ (fun w0 R0=> ?_)
 refine za 0 (AM.okN ?_)
 dsimp only[a0z]
 refine xX _ (fun w0 R0=> ?_)
 refine za 1 (AM.okN ?_)
 dsimp only[a0z]
 refine wM ?_
 refine vg ?_
 dsimp only[cA,cN]
 refine zo (xc ?_)
 refine x8 yh zj (e0r e)
end Go.Proofs.YtojomcdjcpmnkaaGreat.By
namespace Go.Proofs.YtojomcdjcpmnkaaGreat.By
open Go.RowKit L A Dk
attribute [local irreducible] AW AQ AO
abbrev prs (b:Nat)(r:List UInt8)(bad:Bool):HE:= .blk b 204 2 [roB r,.val (.bool bad)]
theorem p0E (x y:List UInt8):Sp Tryz.prog 172 [roB x,roB y] [] (Is (.val (.bool (decide (x=y))))):=by
 refine yN Tryz.func172 _ Tryz.ntmps172 (fun w0 R0=> ?_)
 refine zD (zr ?_)
 refine zc (zI (zo (zD (zr ?_))))
 refine zb ?_
 refine vT (O.convS rfl rfl (by rfl)) ?_
 refine zb ?_
 refine vT (O.convS rfl rfl (by rfl)) ?_
 refine vT (O.eqlS rfl rfl rfl (by rfl)) ?_
 refine zc (zI (zo (xc ?_)))
 have e:decide (x=y)=(x==y):=g0a (by simp)
 refine vu rfl rfl nS (⟨by rw[a0R,a0R,e],rfl⟩)
theorem m0b (n:Nat):a0p n (.int .u8 0)=a0a (List.replicate n 0):=by
 rw[a0p,show(Value.int IntKind.u8 0).cells.toList.map AV.val= [AV.val (.int .u8 0)]from rfl,List.flatten_replicate_singleton]
 simp[a0a]
theorem v0E {b:Nat}{p q:List UInt8×List UInt8×Bool}(h:q=p){v:AV}(hv:v=roB p.1):IsM (roB q.1) (prs b q.2.1 q.2.2) v [prs b p.2.1 p.2.2]:=by subst h;exact⟨hv,rfl⟩
theorem j0e (b:Nat)(r:List UInt8)(bad:Bool)(n:Int)(hn:0≤n∧n≤1000000):
  Sp Tryz.prog 189 [ptr b,.val (.int .i64 n)] [prs b r bad] (IsM (roB (a0X r bad n).1) (prs b (a0X r bad n).2.1 (a0X r bad n).2.2)):=by
 obtain⟨k,rfl⟩: ∃k:Nat,n=(k:Int):=⟨n.toNat,by omega⟩
 have hmin:(if(4:Int)<(k:Int)then 4 else(k:Int))=((min k 4:Nat):Int):=by split<;>omega
 refine yN Tryz.func189 _ Tryz.ntmps189 (fun w0 R0=> ?_)
 refine zD (zr ?_)
 refine zc (zI (zo (zD (zD (zr ?_)))))
 refine zb ?_
 refine zb ?_
 refine vA ?_
 refine zt ?_
 refine zy ?_
 refine zW ?_
 refine yS (zI (zo ?_))
 refine yk (fun h=> ?_) (fun h=> ?_)<;>(try simp only[vX]at h)
 ·have e:a0X r bad k=(List.replicate (min k 4) 0,r,true):=by
   rw[a0X,if_pos h,show(min (k:Int) 4).toNat=min k 4 by omega]
  refine zD (zr ?_)
  refine zb ?_
  refine vA ?_
  refine zt ?_
  refine za 0 (zI (zo (zD (zr ?_))))
  refine zb ?_
  refine vT (O.minI rfl rfl rfl rfl) ?_
  refine AO.opB (O.makeSlice rfl rfl rfl (by assumption) (by assumption) (by omega) (by(unfold maxLen;omega)) (by rfl)) rfl rfl rfl ?_
  intro B1
  refine zc (zI (zo (xc (xr ?_))))
  refine AQ.g ?_
  refine yc 0 4 ?_
  refine AQ.u ?_
  refine AQ.g ?_
  refine wd 4 ?_
  refine AQ.u ?_
  refine vu rfl rfl ⟨_,by repeat(first|exact List.Sublist.slnil|refine List.Sublist.cons_cons _ ?_),List.Perm.refl _⟩ (v0E e (b0l (by simp) (m0b _)))
 have e:a0X r bad k=(r.take k,r.drop k,bad):=by rw[a0X,if_neg (by omega)];simp
 refine yX (zo (zD (zr ?_)))
 refine zb ?_
 refine vA ?_
 refine zt ?_
 refine zy ?_
 refine zb ?_
 refine zb ?_
 refine vT (O.sliceMax rfl rfl rfl rfl (by rfl) (by rfl) (by omega) (by rfl)) ?_
 refine zc (zI (zo (zD (zr ?_))))
 refine zb ?_
 refine zb ?_
 refine vA ?_
 refine zt ?_
 refine zy ?_
 refine zb ?_
 refine vT (O.sliceFromB rfl rfl rfl (by rfl) (by omega)) ?_
 refine vA ?_
 refine zt ?_
 refine za 0 (zI (zo (zD (zr ?_))))
 refine zb ?_
 refine zc (zI (zo (xc ?_)))
 refine AQ.g ?_
 refine wd 4 ?_
 refine AQ.u ?_
 refine vu rfl rfl ⟨_,by repeat(first|exact List.Sublist.slnil|refine List.Sublist.cons_cons _ ?_),List.Perm.refl _⟩ (v0E e (b0l (by simp;omega) (by simp)))
theorem u0s {b:Nat}{p q:Int×List UInt8×Bool}(h:q=p):IsM (.val (.int .i64 q.1)) (prs b q.2.1 q.2.2) (.val (.int .i64 p.1)) [prs b p.2.1 p.2.2]:=by subst h;exact⟨rfl,rfl⟩
theorem l0u (b:Nat)(r:List UInt8)(bad:Bool)(n:Int)(hn:0≤n∧n≤15):
  Sp Tryz.prog 190 [ptr b,.val (.int .u8 n)] [prs b r bad] (IsM (.val (.int .i64 (f0G r bad n).1)) (prs b (f0G r bad n).2.1 (f0G r bad n).2.2)):=by
 have q1:=c0m r bad 1 (by omega)
 have q2:=c0m r bad 2 (by omega)
 have q1':=q1.2.2 (by omega)
 have q2':=q2.2.2 (by omega)
 have u1:=b0u (bt (a0X r bad 1).1 0)
 have u2:=b0u (bt (a0X r bad 2).1 0)
 have u3:=b0u (bt (a0X r bad 2).1 1)
 refine yN Tryz.func190 _ Tryz.ntmps190 (fun w0 R0=> ?_)
 refine zD (zr ?_)
 refine zc (zI (zo (zD (zD (zr ?_)))))
 refine zb (zI (zo (xj (zD (zr ?_)))))
 refine z9 ?_
 refine zc (zI (zo ?_))
 refine yk (fun h=> ?_) (fun h=> ?_)<;>(try simp only[vX]at h)
 ·have e:f0G r bad n=(((bt (a0X r bad 1).1 0).toNat:Int)+13,(a0X r bad 1).2):=if_pos h
  refine zD (zr ?_)
  refine zb ?_
  refine xM 0 rfl rfl Tryz.func189 rfl rfl rfl rfl rfl rfl (j0e _ r bad _ (by omega)) ?_
  refine z8 ?_
  refine vT (O.loadR rfl rfl (by exact b0d (k:=0) (by omega) rfl)) ?_
  refine xO ?_
  refine zA ?_
  refine zc (zI (zo (xc ?_)))
  refine wi (xr ?_)
  refine vu rfl rfl ⟨_,by repeat(first|exact List.Sublist.slnil|refine List.Sublist.cons_cons _ ?_),List.Perm.refl _⟩ (u0s e)
 refine zD (zr ?_)
 refine z9 ?_
 refine zc (zI (zo ?_))
 refine yk (fun h2=> ?_) (fun h2=> ?_)<;>(try simp only[vX]at h2)
 ·have e:f0G r bad n=(((bt (a0X r bad 2).1 0).toNat:Int)*256+((bt (a0X r bad 2).1 1).toNat:Int)+269,(a0X r bad 2).2):=by rw[f0G,if_neg h,if_pos h2]
  refine zD (zr ?_)
  refine zb ?_
  refine xM 0 rfl rfl Tryz.func189 rfl rfl rfl rfl rfl rfl (j0e _ r bad _ (by omega)) ?_
  refine zc (zI (zo (zD ?_)))
  refine yw 12 ?_
  simp only[cT,cZ,cD,cO]
  refine zG ?_
  refine xn ?_
  refine vS (O.loadR rfl rfl (by exact b0d (k:=0) (by omega) rfl)) ?_
  refine wF ?_
  refine vS (O.shlK 8 256 rfl rfl rfl rfl (by rfl) (by exact e0h (by omega))) ?_
  refine zG ?_
  refine xn ?_
  refine vS (O.loadR rfl rfl (by exact b0d (k:=1) (by omega) rfl)) ?_
  refine wF ?_
  refine xk ?_
  refine xk ?_
  refine vB ?_
  refine wZ ?_
  simp only[a0f,cN,cA,cP]
  refine zI (zo (xc ?_))
  refine wi (xr ?_)
  refine vu rfl rfl ⟨_,by repeat(first|exact List.Sublist.slnil|refine List.Sublist.cons_cons _ ?_),List.Perm.refl _⟩ (u0s e)
 refine zD (zr ?_)
 refine z9 ?_
 refine zc (zI (zo ?_))
 refine yk (fun h3=> ?_) (fun h3=> ?_)<;>(try simp only[vX]at h3)
 ·have e:f0G r bad n=(n,r,true):=by rw[f0G,if_neg h,if_neg h2,if_pos h3]
  refine zr ?_
  refine zb ?_
  refine vA ?_
  refine zt ?_
  refine za 0 (zI (xz (zo (zD (zr ?_)))))
  refine zb ?_
  refine xO ?_
  refine zc (zI (zo (xc ?_)))
  refine vu rfl rfl ⟨_,by repeat(first|exact List.Sublist.slnil|refine List.Sublist.cons_cons _ ?_),List.Perm.refl _⟩ (u0s e)
 have e:f0G r bad n=(n,r,bad):=by rw[f0G,if_neg h,if_neg h2,if_neg h3]
 refine yX (xz (zo (zD (zr ?_))))
 refine zb ?_
 refine xO ?_
 refine zc (zI (zo (xc ?_)))
 refine vu rfl rfl ⟨_,by repeat(first|exact List.Sublist.slnil|refine List.Sublist.cons_cons _ ?_),List.Perm.refl _⟩ (u0s e)
theorem j0d {b:Nat}{r:List UInt8}{bad:Bool}{n:Int}{x r':List UInt8}{bad':Bool}(e:a0X r bad n=(x,r',bad'))(hn:0≤n∧n≤1000000):
  Sp Tryz.prog 189 [ptr b,.val (.int .i64 n)] [prs b r bad] (IsM (roB x) (prs b r' bad')):=by
 have:=j0e b r bad n hn
 rwa [e]at this
theorem g0K {b:Nat}{r:List UInt8}{bad:Bool}{n:Int}{v:Int}{r':List UInt8}{bad':Bool}(e:f0G r bad n=(v,r',bad'))(hn:0≤n∧n≤15):
  Sp Tryz.prog 190 [ptr b,.val (.int .u8 n)] [prs b r bad] (IsM (.val (.int .i64 v)) (prs b r' bad')):=by
 have:=l0u b r bad n hn
 rwa [e]at this
abbrev s0I (b x:List UInt8)(opts:List Opt)(r:List UInt8):Msg:=⟨((bt b 0).toNat:Int)/16%4,((bt b 1).toNat:Int),((bt b 2).toNat:Int)*256+((bt b 3).toNat:Int),x,opts,r.drop 1⟩
theorem n0P (b:List UInt8)(hb:b.length≤1000000):Sp Tryz.prog 173 [roB b] [] (Is (g0r (b0Y b))):=by
 have u0:=b0u (bt b 0)
 have u1:=b0u (bt b 1)
 have u2:=b0u (bt b 2)
 have u3:=b0u (bt b 3)
 refine yN Tryz.func173 _ Tryz.ntmps173 (fun w0 R0=> ?_)
 refine zD (zr ?_)
 refine zd ?_
 intro B1
 refine zc (zI (zo (zD (xj (zD (zr ?_))))))
 refine zb ?_
 refine zW ?_
 refine yS ?_
 refine zc (zI (zo ?_))
 refine yk (fun h=> ?_) (fun h=> ?_)<;>(try simp only[vX]at h)
 ·have e:b0Y b=(Msg.none,8):=by rw[b0Y,if_pos (by omega)]
  refine zD (zr ?_)
  refine zN ?_
  refine za 0 ?_
  refine zc (zI (zo (xc ?_)))
  refine wi (xr ?_)
  refine x8 zT zj (m0F e rfl)
 refine zD (zr ?_)
 refine zb ?_
 refine zW ?_
 refine zP ?_
 refine zc (zI (zo ?_))
 refine yk (fun h2=> ?_) (fun h2=> ?_)<;>(try simp only[vX]at h2)
 ·have e:b0Y b=(Msg.none,2):=by rw[b0Y,if_neg (by omega),if_pos (by omega)]
  refine zD (zr ?_)
  refine zN ?_
  refine za 0 ?_
  refine zc (zI (zo (xc ?_)))
  refine wi (xr ?_)
  refine x8 zT zj (m0F e rfl)
 obtain⟨x,r0,bad0,e0⟩: ∃x r0 bad0,a0X (b.drop 4) false (((bt b 0).toNat:Int)%16)=(x,r0,bad0):=⟨_,_,_,rfl⟩
 obtain⟨hf0,hx⟩:=Fits.first e0
 have hl0:=c0m (b.drop 4) false (((bt b 0).toNat:Int)%16) (by omega)
 rw[e0]at hl0
 simp only[List.length_drop]at hl0
 refine yX (xz (zo (zD ?_)))
 refine yw 22 ?_
 simp only[cT,cZ,cD,cO]
 refine zG ?_
 refine xn ?_
 refine vS (O.loadR rfl rfl (by exact b0d (k:=0) (by omega) rfl)) ?_
 refine vS (wz 4 16) ?_
 refine vS (O.and_ rfl rfl rfl (j0W 2 (by decide) (by decide) (m:=4) (by decide) (by omega))) ?_
 refine wF ?_
 refine zG ?_
 refine xn ?_
 refine vS (O.loadR rfl rfl (by exact b0d (k:=1) (by omega) rfl)) ?_
 refine wF ?_
 refine zG ?_
 refine xn ?_
 refine vS (O.loadR rfl rfl (by exact b0d (k:=2) (by omega) rfl)) ?_
 refine wF ?_
 refine vS (O.shlK 8 256 rfl rfl rfl rfl (by rfl) (by exact e0h (by omega))) ?_
 refine zG ?_
 refine xn ?_
 refine vS (O.loadR rfl rfl (by exact b0d (k:=3) (by omega) rfl)) ?_
 refine wF ?_
 refine vS (O.or_ rfl rfl rfl (n0i 8 (m:=256) (by decide) (by omega) (by omega))) ?_
 refine xQ ?_
 refine yV ?_
 refine wZ ?_
 simp only[a0f,cN,cA,cP]
 rintro _ _ ⟨B2,rfl,rfl⟩
 simp only[cA,cN]
 refine za 0 (zI (zo (zD (zr ?_))))
 refine zb ?_
 refine vT (O.sliceFromB (k:=4) rfl rfl rfl (by rfl) (by omega)) ?_
 refine zN ?_
 refine zd ?_
 intro B3
 refine za 0 (zI (zo (zD (zr ?_))))
 refine zb ?_
 refine z8 ?_
 refine vT (O.loadR rfl rfl (by exact b0d (k:=0) (by omega) rfl)) ?_
 refine vT (O.and_ rfl rfl rfl (j0W 4 (by decide) (by decide) (m:=16) (by decide) (by omega))) ?_
 refine xO ?_
 refine xM 0 rfl rfl Tryz.func189 rfl rfl rfl rfl rfl rfl (j0d e0 (by omega)) ?_
 refine vT (xH rfl Tryz.func138 rfl rfl rfl (d0l _ (by omega))) ?_
 refine zt ?_
 refine za 1 (zI (zo (zD (zr ?_))))
 refine zc (zI (zo (zD (xj ?_))))
 refine AW.g ?_
 refine G.nilRow 96 2 ?_
 refine AW.u ?_
 refine zh [(0,_),(2,_),(4,_),(5,_)] (fun nn E H=> ∃(opts:List Opt) (last:Int) (r:List UInt8) (bad:Bool) (V:Value),(Fits b opts last r bad)∧(opts.length+r.length≤4096)∧(0≤last∧last≤65804*opts.length)∧(V.oneCell'=true)∧nn=r.length∧E= [(6,.val (.int .i64 last))]∧H= [.row V 96 2 opts.length (a0x opts),prs B3 r bad,.blk B2 29 6 [.val (.int .i64 (((bt b 0).toNat:Int)/16%4)),.val (.int .i64 ((bt b 1).toNat:Int)),.val (.int .i64 (((bt b 2).toNat:Int)*256+((bt b 3).toNat:Int))),roB x,.val V,.val (.slice none 0 0)],.blk B1 29 6 [.val (.int .i64 0),.val (.int .i64 0),.val (.int .i64 0),.val (.slice none 0 0),.val (.slice none 0 0),.val (.slice none 0 0)]]) _ (⟨[],0,r0,bad0,_,hf0,by simp;omega,by simp,rfl,rfl,rfl,rfl⟩) ?_
 rintro nn E H ⟨opts,last,r,bad,V,hf,hn,hl,hV,rfl,rfl,rfl⟩
 dsimp only[cA,cN]
 refine zD (zD (zr ?_))
 refine zt ?_
 refine zn ?_
 refine xq ?_
 refine zb ?_
 refine zM ?_
 refine zX 55 ?_
 refine yb 56 ?_
 refine yp 57 ?_
 refine zV ?_
 refine zb ?_
 refine zM ?_
 refine zX 61 ?_
 refine AO.opG rfl rfl rfl (fun hp=>wW 62 rfl (by exact hp) (O.idxR rfl rfl rfl ⟨(by omega),(by(simp only[cond_true,cond_false,Bool.not_eq_true',Bool.not_eq_false',Bool.and_eq_true,Bool.or_eq_true,Bool.or_eq_false_iff,Bool.and_eq_false_imp,cQ,decide_eq_false_iff_not,beq_iff_eq,bne_iff_ne,bne_eq_false_iff_eq,ne_eq]at hp;omega))⟩)) ?_
 refine AO.opG rfl rfl rfl (fun hp=>wW 63 rfl (by exact hp) (O.loadR rfl rfl (by exact b0d (k:=0) (by(simp only[cond_true,cond_false,Bool.not_eq_true',Bool.not_eq_false',Bool.and_eq_true,Bool.or_eq_true,Bool.or_eq_false_iff,Bool.and_eq_false_imp,cQ,decide_eq_false_iff_not,beq_iff_eq,bne_iff_ne,bne_eq_false_iff_eq,ne_eq]at hp;omega)) rfl))) ?_
 refine xS 64 ?_
 refine zV (zI (zo ?_))
 refine yk (fun h3=> ?_) (fun h3=> ?_)<;>(try simp only[vX]at h3)
 ·obtain⟨⟨rfl,h4⟩,h5⟩:=h3
  obtain⟨h0,r9,rfl⟩: ∃h0 r9,r=h0::r9:=by
   cases r with
   |nil=>simp at h4
   |cons h0 r9=>exact⟨h0,r9,rfl⟩
  have u4:=b0u h0
  have ea:a0X (h0::r9) false 1=([h0],r9,false):=by rw[a0X,if_neg (by simp;omega)];rfl
  obtain⟨v1,r1,b1,e1⟩: ∃v1 r1 b1,f0G r9 false ((h0.toNat:Int)/16)=(v1,r1,b1):=⟨_,_,_,rfl⟩
  obtain⟨v2,r2,b2,e2⟩: ∃v2 r2 b2,f0G r1 b1 ((h0.toNat:Int)%16)=(v2,r2,b2):=⟨_,_,_,rfl⟩
  obtain⟨y,r3,b3,e3⟩: ∃y r3 b3,a0X r2 b2 v2=(y,r3,b3):=⟨_,_,_,rfl⟩
  have q1:=n0q r9 false (n:=(h0.toNat:Int)/16) (by omega)
  have q2:=n0q r1 b1 (n:=(h0.toNat:Int)%16) (by omega)
  rw[e1]at q1
  rw[e2]at q2
  simp only at q1 q2
  have q3:=c0m r2 b2 v2 (by omega)
  rw[e3]at q3
  simp only at q3
  simp only[cL]at hn
  have hf2:Fits b (opts++[⟨last+v1,y⟩]) (last+v1) r3 b3:=hf.step (by simp) (fun e=>h5 (by rw[e];rfl)) e1 e2 e3
  have hsc:a0x (opts++[⟨last+v1,y⟩])=a0x opts++[.val (.int .i64 (last+v1)),roB y]:=a0y _ _
  refine yX (zo (xj (zD (zr ?_))))
  refine xM 1 rfl rfl Tryz.func189 rfl rfl rfl rfl rfl rfl (j0d ea (by omega)) ?_
  refine vT (O.idxR rfl rfl rfl ⟨(by omega),(by(simp only[List.length_take,List.length_drop,cH,cL,cE,List.length_set,Nat.zero_add];omega))⟩) ?_
  refine vG ?_
  refine zc (zI (zo (zD (zr ?_))))
  refine zb ?_
  refine zb ?_
  refine vT (wz 4 16) ?_
  refine xM 1 rfl rfl Tryz.func190 rfl rfl rfl rfl rfl rfl (g0K e1 (by omega)) ?_
  refine zA ?_
  refine zc (zI (zo (zD (zr ?_))))
  refine zb ?_
  refine vT (O.and_ rfl rfl rfl (j0W 4 (by decide) (by decide) (m:=16) (by decide) (by omega))) ?_
  refine xM 1 rfl rfl Tryz.func190 rfl rfl rfl rfl rfl rfl (g0K e2 (by omega)) ?_
  refine zc (zI (zo ?_))
  refine vm [[(0,false),(1,false),(2,false),(3,false),(4,true),(5,false),(6,false),(7,false)],[(8,true)],[(9,false)],[(10,true)]] ?_
  refine AMS.go (by exact(by exact a0C 5 1 rfl rfl a0h)) ?_
  try dsimp only[List.eraseIdx]
  refine xd ?_
  refine yT ?_
  refine yR ?_
  refine yR ?_
  refine xX _ (fun w0 R0=> ?_)
  refine xM 0 rfl rfl Tryz.func189 rfl rfl rfl rfl rfl rfl (j0d e3 (by omega)) ?_
  refine AM.ok ?_
  dsimp only[a0z]
  refine vU rfl (xH rfl Tryz.func138 rfl rfl rfl (d0l _ (by omega))) ?_
  refine vU rfl z7 ?_
  refine xh ?_
  refine vg ?_
  try dsimp only[cA,cN]
  refine AMS.go (by exact(a0Y 1 rfl a0h)) ?_
  try dsimp only[List.eraseIdx]
  refine xX _ (fun w0 R0=> ?_)
  refine zx 0 ?_
  intro V4 hV4
  refine AM.ok ?_
  dsimp only[a0z]
  refine vg ?_
  try dsimp only[cA,cN]
  refine vO ?_
  try dsimp only[List.eraseIdx]
  refine xd ?_
  refine vg ?_
  try dsimp only[cA,cN]
  refine AMS.go (by exact(a0Y 2 rfl a0h)) ?_
  try dsimp only[List.eraseIdx]
  refine xX _ (fun w0 R0=> ?_)
  refine yA 0 (AM.okN ?_)
  dsimp only[a0z]
  refine vg ?_
  try dsimp only[cA,cN]
  refine AMS.nil (xz ?_)
  refine xC _ _ _ (by simp;omega) (⟨opts++[⟨last+v1,y⟩],last+v1,r3,b3,_,hf2,by simp;omega,by simp;omega,‹_›,rfl,rfl,by rw[hsc,cH]⟩)
 have hend:bad=true∨r= []∨bt r 0=255:=by
  cases bad with
  |true=>exact .inl rfl
  |false=>
   cases r with
   |nil=>exact .inr (.inl rfl)
   |cons h0 r9=>exact .inr (.inr (u8_eq.1 (h3 ⟨rfl,by simp⟩)))
 have hall:=hf.all hx hend rfl rfl rfl rfl
 refine AW.g ?_
 refine G.freezeCell 0 1 4 rfl rfl rfl ?_
 refine AW.u ?_
 refine AW.g ?_
 refine G.coeCell 1 5 rfl rfl Coe.nil ?_
 refine AW.u ?_
 refine wb ?_
 refine xY ?_
 refine x3 ?_
 refine xx (zo (zD (zD (zr ?_))))
 refine zt ?_
 refine zy ?_
 refine zW ?_
 refine yS (zI (zo ?_))
 refine xL True [(0,_),(2,_),(4,_),(5,_)] [] [prs B3 r bad,.blk B2 29 6 [.val (.int .i64 (((bt b 0).toNat:Int)/16%4)),.val (.int .i64 ((bt b 1).toNat:Int)),.val (.int .i64 (((bt b 2).toNat:Int)*256+((bt b 3).toNat:Int))),roB x,roO opts,roB (r.drop 1)],.blk B1 29 6 [.val (.int .i64 0),.val (.int .i64 0),.val (.int .i64 0),.val (.slice none 0 0),.val (.slice none 0 0),.val (.slice none 0 0)]] (fun hb=> ?_) (fun hb=> ?_) (fun hj=> ?_)<;>try(try simp only[vX]at hb)
 ·have hb':=hb
  refine zr ?_
  refine zt ?_
  refine zy ?_
  refine vT (O.sliceFromB (k:=1) rfl rfl rfl (by rfl) (by omega)) ?_
  refine vT (xH rfl Tryz.func138 rfl rfl rfl (d0l _ (by(simp;omega)))) ?_
  refine zt ?_
  refine za 1 (zI ?_)
  refine wR
 ·have hb':=hb
  obtain rfl:r= []:=List.eq_nil_of_length_eq_zero (by omega)
  refine yX ?_
  refine wR
 dsimp only[cA,cN]
 refine zo (zD (zD (zr ?_)))
 refine zt ?_
 refine zy ?_
 refine zb ?_
 refine AO.opG rfl rfl rfl (fun hp=>zl) ?_
 refine AO.opG rfl rfl rfl (fun hp=>wW 100 rfl (by exact hp) (xH rfl Tryz.func162 rfl rfl rfl (k0h (s0I b x opts r)))) ?_
 refine yZ 101 ?_
 refine zE ?_
 refine zb ?_
 refine AO.opG rfl rfl rfl (fun hp=>zl) ?_
 refine AO.opG rfl rfl rfl (fun hp=>wW 105 rfl (by exact hp) (O.call rfl Tryz.func163 rfl rfl rfl (i0G (s0I b x opts r) (by have:=hp;simp at this;exact this.2)))) ?_
 refine yt ?_
 refine AO.opG rfl rfl rfl (fun hp=>wW 106 rfl (by exact hp) (wW 107 rfl (by exact hp) (xH rfl Tryz.func172 rfl rfl rfl (p0E _ _)))) ?_
 refine yZ 108 ?_
 refine zE (zI (zo ?_))
 refine yk (fun h6=> ?_) (fun h6=> ?_)<;>(try simp only[vX]at h6)
 ·have e:b0Y b=(Msg.none,4):=g0b (by omega) (by omega) fun m hm hr=>by
   obtain⟨g1,g2⟩:=hall m hm hr
   subst g2
   rcases h6 with(h6|h6)|h6
   ·rw[g1]at h6;cases h6
   ·exact h6 hm
   exact h6 hr
  refine zD (zr ?_)
  refine zN ?_
  refine za 2 ?_
  refine zc (zI (zo (xc (xr ?_))))
  refine x8 zm zj (m0F e rfl)
 have e:b0Y b=(s0I b x opts r,0):=k0R (by omega) (by omega) h6.1.2 h6.2 fun m hm hr=>(hall m hm hr).2
 refine yX (zo (zD (zr ?_)))
 refine zC ?_
 refine za 2 ?_
 refine zc (zI (zo (xc ?_)))
 refine x8 zm xe (m0F e rfl)
def f0b (b:List UInt8)(n:Int)(i:Nat):Int×Nat:=
 if n<13 then(n,i)else if n=13∧i<b.length then(13+((bt b i).toNat:Int),i+1)
 else if n=14∧i+1<b.length then(269+((bt b i).toNat:Int)*256+((bt b (i+1)).toNat:Int),i+2)else(-1,i)
theorem j0R (b:List UInt8)(i j:Nat):bt (b.drop i) j=bt b (i+j):=by
 simp[bt,List.getD]
theorem k0D {b t:List UInt8}{x:Int}{i:Nat}(h:0≤x∧x≤65804)(hb:b.drop i=(ext x).2++t):f0b b (ext x).1 i=(x,i+(ext x).2.length)∧b.drop (i+(ext x).2.length)=t:=by
 refine⟨?_,by rw[←List.drop_drop,hb];simp⟩
 have hl:=congrArg List.length hb
 have h0:=congrArg (fun l=>bt l 0) hb
 have h1:=congrArg (fun l=>bt l 1) hb
 simp only[j0R,List.length_drop,cH]at hl h0 h1
 unfold ext at hl h0 h1⊢
 split at hl<;>rename_i g1
 ·unfold f0b;rw[if_pos g1,if_pos (by simp only;omega)];rfl
 rw[if_neg g1]at h0 h1⊢
 split at hl<;>rename_i g2
 ·rw[if_pos g2]at h0 h1⊢
  have:=a0F (x:=x-13) (by omega)
  simp only[cL,cE]at hl⊢
  unfold f0b
  rw[if_neg (by omega),if_pos ⟨rfl,by omega⟩]
  simp only[Nat.add_zero]at h0
  rw[h0]
  refine Prod.ext ?_ rfl
  show 13+((u8 (x-13)).toNat:Int)=x
  omega
 rw[if_neg g2]at h0 h1⊢
 have q1:=a0F (x:=(x-269)/256) (by omega)
 have q2:=c0d (x-269)
 simp only[cL,cE]at hl⊢
 unfold f0b
 rw[if_neg (by omega),if_neg (by omega),if_pos ⟨rfl,by omega⟩]
 simp only[Nat.add_zero]at h0
 rw[h0,h1]
 refine Prod.ext ?_ rfl
 show 269+((u8 ((x-269)/256)).toNat:Int)*256+((u8 (x-269)).toNat:Int)=x
 omega
theorem h0y (b:List UInt8){n:Int}(h:0≤n∧n≤15){i:Nat}(hi:i≤b.length): -1≤(f0b b n i).1∧(f0b b n i).1≤65804∧i≤(f0b b n i).2∧(f0b b n i).2≤b.length:=by
 have:=b0u (bt b i)
 have:=b0u (bt b (i+1))
 unfold f0b
 (repeat' split)<;>simp only<;>omega
theorem Fits.refstep {b:List UInt8}{opts:List Opt}{last:Int}{i:Nat}(h:Fits b opts last (b.drop i) false)(hat:i<b.length)(h2:((bt b i).toNat:Int)≠255){v1 v2:Int}{j k:Nat}
  (e1:f0b b (((bt b i).toNat:Int)/16) (i+1)=(v1,j)) (e2:f0b b (((bt b i).toNat:Int)%16) j=(v2,k)): ∀m,OkM m→raw m=b→
  0≤v1∧0≤v2∧k+v2≤b.length∧opts.length+1≤m.opts.length∧b.drop (k+v2.toNat)=c0z m (opts.length+1)∧opts++[⟨last+v1,(b.drop k).take v2.toNat⟩]=m.opts.take (opts.length+1):=fun m hm hr=>by
 have hd:=f0Y hat
 have hr0:bt (b.drop i) 0=bt b i:=j0R b i 0
 obtain⟨o,d,n,h5,h6,h7,h8,h9,h10,h11,h12,h13⟩:=h.parts hm hr (by rw[hd];simp) (fun e=>h2 (by rw[←hr0,e];rfl))
 obtain⟨-, -, -,h16,h17⟩:=h m hm hr
 have q1:=c0f d h9
 have q2:=c0f n (by omega)
 rw[hr0]at h12
 rw[List.drop_drop]at h13
 obtain⟨g1,g2⟩:=k0D (by omega) h13
 rw[h12,show(16*(ext d).1+(ext n).1)/16=(ext d).1 by omega,g1]at e1
 simp only[Prod.mk.injEq]at e1
 obtain⟨e11,e12⟩:=e1
 rw[e12]at g2
 obtain⟨g3,g4⟩:=k0D (by omega) g2
 rw[h12,show(16*(ext d).1+(ext n).1)%16=(ext n).1 by omega,g3]at e2
 simp only[Prod.mk.injEq]at e2
 obtain⟨e21,e22⟩:=e2
 rw[e22]at g4
 have hl:=congrArg List.length g4
 simp only[List.length_drop,cH]at hl
 have hv:v2.toNat=o.val.length:=by omega
 have hol:last+v1=o.num:=by omega
 have hk:(k:Int)+v2≤b.length:=by
  rcases Nat.lt_or_ge b.length k with h|h
  ·exfalso
   have:=h0y b (n:=((bt b i).toNat:Int)%16) (by omega) (i:=j) (by have:=h0y b (n:=((bt b i).toNat:Int)/16) (by have:=b0u (bt b i);omega) (i:=i+1) (by omega);rw[h12,show(16*(ext d).1+(ext n).1)/16=(ext d).1 by omega,g1]at this;simp only at this;omega)
   rw[h12,show(16*(ext d).1+(ext n).1)%16=(ext n).1 by omega,g3]at this
   simp only at this
   omega
  omega
 refine⟨by omega,by omega,hk,h5,?_,?_⟩
 ·rw[←List.drop_drop,g4,hv];simp
 rw[a0g Opt.none h5,←h17,g4,hv,hol,List.take_left' rfl,h6]
theorem retN {q:AV}{r:Int×Nat}{v:Int}{i:Nat}(h:r=(v,i))(hq:q= .tup [.val (.int .i64 v),.val (.int .i64 (i:Int))]):Is (.tup [.val (.int .i64 r.1),.val (.int .i64 (r.2:Int))]) q []:=by subst h;exact⟨hq,rfl⟩
theorem o0N (b:List UInt8)(n:Int)(i:Nat)(hn:0≤n∧n≤15)(hb:b.length≤1000000)(hi:i≤b.length):
  Sp Tryz.prog 203 [roB b,.val (.int .i64 n),.val (.int .i64 (i:Int))] [] (Is (.tup [.val (.int .i64 (f0b b n i).1),.val (.int .i64 ((f0b b n i).2:Int))])):=by
 have u0:=b0u (bt b i)
 have u1:=b0u (bt b (i+1))
 refine yN Tryz.func203 _ Tryz.ntmps203 (fun w0 R0=> ?_)
 refine zD (zr ?_)
 refine zc ?_
 refine zc (zI (zo (zD (xj (zD (zr ?_))))))
 refine zb ?_
 refine zP ?_
 refine zc (zI (zo ?_))
 refine yk (fun h=> ?_) (fun h=> ?_)<;>(try simp only[vX]at h)
 ·have e:f0b b n i=(n,i):=by rw[f0b,if_pos h]
  refine zD (zr ?_)
  refine zb ?_
  refine zb ?_
  refine zc ?_
  refine zc (zI (zo (xc ?_)))
  refine wi (xr ?_)
  refine AQ.ret2 rfl rfl rfl nS (retN e rfl)
 refine zD (zr ?_)
 refine zb ?_
 refine z9 ?_
 refine zb ?_
 refine yt ?_
 refine yt ?_
 refine yb 18 ?_
 refine AO.opG rfl rfl rfl (fun hp=>wW 17 rfl (by exact hp) (wW 19 rfl (by exact hp) yu)) ?_
 refine zV ?_
 refine zc (zI (zo ?_))
 refine yk (fun h2=> ?_) (fun h2=> ?_)<;>(try simp only[vX]at h2)
 ·have e:f0b b n i=(13+((bt b i).toNat:Int),i+1):=by rw[f0b,if_neg (by omega),if_pos (by omega)]
  refine zD (zr ?_)
  refine zb ?_
  refine zb ?_
  refine z8 ?_
  refine vT (O.loadR rfl rfl (by exact b0d (k:=i) (by omega) (by omega))) ?_
  refine xO ?_
  refine zA ?_
  refine zb ?_
  refine zA ?_
  refine zc ?_
  refine zc (zI (zo (xc ?_)))
  refine wi (xr ?_)
  refine AQ.ret2 rfl rfl rfl nS (retN e rfl)
 refine zD (zr ?_)
 refine zb ?_
 refine z9 ?_
 refine zb ?_
 refine yt ?_
 refine AO.opG rfl rfl rfl (fun hp=>wW 34 rfl (by exact hp) zF) ?_
 refine yt ?_
 refine yb 36 ?_
 refine AO.opG rfl rfl rfl (fun hp=>wW 35 rfl (by exact hp) (wW 37 rfl (by exact hp) yu)) ?_
 refine zV ?_
 refine zc (zI (zo ?_))
 refine yk (fun h3=> ?_) (fun h3=> ?_)<;>(try simp only[vX]at h3)
 ·have e:f0b b n i=(269+((bt b i).toNat:Int)*256+((bt b (i+1)).toNat:Int),i+2):=by rw[f0b,if_neg (by omega),if_neg (by omega),if_pos (by omega)]
  refine zD ?_
  refine yw 18 ?_
  simp only[cT,cZ,cD,cO]
  refine zG ?_
  refine zG ?_
  refine xn ?_
  refine vS (O.loadR rfl rfl (by exact b0d (k:=i) (by omega) (by omega))) ?_
  refine wF ?_
  refine vS (O.shlK 8 256 rfl rfl rfl rfl (by rfl) (by exact e0h (by omega))) ?_
  refine xk ?_
  refine zG ?_
  refine zG ?_
  refine xk ?_
  refine xn ?_
  refine vS (O.loadR rfl rfl (by exact b0d (k:=i+1) (by omega) (by omega))) ?_
  refine wF ?_
  refine xk ?_
  refine zG ?_
  refine xk ?_
  refine vB ?_
  refine vB ?_
  refine wZ ?_
  simp only[a0f,cN,cA,cP]
  refine zI (zo (xc ?_))
  refine wi (xr ?_)
  refine AQ.ret2 rfl rfl rfl nS (retN e rfl)
 have e:f0b b n i=(-1,i):=by rw[f0b,if_neg (by omega),if_neg (by omega),if_neg (by omega)]
 refine yX (xz (zo (zD (zr ?_))))
 refine zb ?_
 refine zc ?_
 refine zc (zI (zo (xc ?_)))
 refine AQ.ret2 rfl rfl rfl nS (retN e rfl)
theorem g0F {b:List UInt8}{n:Int}{i j:Nat}{v:Int}(e:f0b b n i=(v,j))(hn:0≤n∧n≤15)(hb:b.length≤1000000)(hi:i≤b.length):
  Sp Tryz.prog 203 [roB b,.val (.int .i64 n),.val (.int .i64 (i:Int))] [] (Is (.tup [.val (.int .i64 v),.val (.int .i64 (j:Int))])):=by
 have:=o0N b n i hn hb hi
 rwa [e]at this
theorem l0o (b:List UInt8)(hb:b.length≤1000000):Sp Tryz.prog 191 [roB b] [] (Is (g0r (b0Y b))):=by
 have u0:=b0u (bt b 0)
 have u1:=b0u (bt b 1)
 have u2:=b0u (bt b 2)
 have u3:=b0u (bt b 3)
 refine yN Tryz.func191 _ Tryz.ntmps191 (fun w0 R0=> ?_)
 refine zD (zr ?_)
 refine zd ?_
 intro B1
 refine zc (zI (zo (zD (xj (zD (zr ?_))))))
 refine zb ?_
 refine zW ?_
 refine yS ?_
 refine zc (zI (zo ?_))
 refine yk (fun h=> ?_) (fun h=> ?_)<;>(try simp only[vX]at h)
 ·have e:b0Y b=(Msg.none,8):=by rw[b0Y,if_pos (by omega)]
  refine zD (zr ?_)
  refine zN ?_
  refine za 0 ?_
  refine zc (zI (zo (xc ?_)))
  refine wi (xr ?_)
  refine x8 zT zj (m0F e rfl)
 refine zD (zr ?_)
 refine zb ?_
 refine zW ?_
 refine zP ?_
 refine zc (zI (zo ?_))
 refine yk (fun h2=> ?_) (fun h2=> ?_)<;>(try simp only[vX]at h2)
 ·have e:b0Y b=(Msg.none,2):=by rw[b0Y,if_neg (by omega),if_pos (by omega)]
  refine zD (zr ?_)
  refine zN ?_
  refine za 0 ?_
  refine zc (zI (zo (xc ?_)))
  refine wi (xr ?_)
  refine x8 zT zj (m0F e rfl)
 refine yX (xz (zo (zD (zr ?_))))
 refine zb ?_
 refine z8 ?_
 refine vT (O.loadR rfl rfl (by exact b0d (k:=0) (by omega) rfl)) ?_
 refine vT (O.and_ rfl rfl rfl (j0W 4 (by decide) (by decide) (m:=16) (by decide) (by omega))) ?_
 refine xO ?_
 refine zc (zI (zo (zD ?_)))
 refine yw 22 ?_
 simp only[cT,cZ,cD,cO]
 refine zG ?_
 refine xn ?_
 refine vS (O.loadR rfl rfl (by exact b0d (k:=0) (by omega) rfl)) ?_
 refine vS (wz 4 16) ?_
 refine vS (O.and_ rfl rfl rfl (j0W 2 (by decide) (by decide) (m:=4) (by decide) (by omega))) ?_
 refine wF ?_
 refine zG ?_
 refine xn ?_
 refine vS (O.loadR rfl rfl (by exact b0d (k:=1) (by omega) rfl)) ?_
 refine wF ?_
 refine zG ?_
 refine xn ?_
 refine vS (O.loadR rfl rfl (by exact b0d (k:=2) (by omega) rfl)) ?_
 refine wF ?_
 refine vS (O.shlK 8 256 rfl rfl rfl rfl (by rfl) (by exact e0h (by omega))) ?_
 refine zG ?_
 refine xn ?_
 refine vS (O.loadR rfl rfl (by exact b0d (k:=3) (by omega) rfl)) ?_
 refine wF ?_
 refine vS (O.or_ rfl rfl rfl (n0i 8 (m:=256) (by decide) (by omega) (by omega))) ?_
 refine xQ ?_
 refine yV ?_
 refine wZ ?_
 simp only[a0f,cN,cA,cP]
 rintro _ _ ⟨B2,rfl,rfl⟩
 simp only[cA,cN]
 refine za 0 (zI (zo (zD (zD (zr ?_)))))
 refine zb ?_
 refine yS ?_
 refine zb ?_
 refine yt ?_
 refine yb 53 ?_
 refine yt ?_
 refine AO.opG rfl rfl rfl (fun hp=>wW 55 rfl (by exact hp) zF) ?_
 refine AO.opG rfl rfl rfl (fun hp=>wW 54 rfl (by exact hp) (wW 56 rfl (by exact hp) yu)) ?_
 refine zE (zI (zo ?_))
 refine yk (fun h3=> ?_) (fun h3=> ?_)<;>(try simp only[vX]at h3)
 ·have e:b0Y b=(Msg.none,4):=g0b (by omega) (by omega) fun m hm hr=>by
   obtain⟨g1, -, -, -,g5⟩:=Fits.start m hm hr
   have q1:=hm.1
   have q2:=hm.2.1
   have g6:=congrArg List.length g5
   simp only[List.length_drop,cH]at g6
   omega
  refine zD (zr ?_)
  refine zN ?_
  refine za 1 ?_
  refine zc (zI (zo (xc (xr ?_))))
  refine x8 zm zj (m0F e rfl)
 obtain⟨c,hc⟩: ∃c:Nat,(c:Int)=((bt b 0).toNat:Int)%16:=⟨(bt b 0).toNat%16,by omega⟩
 have e0:a0X (b.drop 4) false (((bt b 0).toNat:Int)%16)=((b.drop 4).take (4+c-4),b.drop (4+c),false):=by
  rw[a0X,if_neg (by rw[List.length_drop];omega),←hc];simp
 obtain⟨hf0,hx⟩:=Fits.first e0
 refine yX (zo (zD (zr ?_)))
 refine zb ?_
 refine zb ?_
 refine zA ?_
 refine vT (O.sliceLHB rfl rfl rfl rfl (lo:=4) (hi:=4+c) (by rfl) (by omega) (by omega) (by omega)) ?_
 refine y0 ?_
 intro V3 hV3
 refine AO.g ?_
 refine yH 0 [64] ?_
 refine AO.u ?_
 dsimp only[List.map,List.eraseIdx,cA,cN]
 refine zt ?_
 refine za 0 (zI (zo (zD (zr ?_))))
 refine zb ?_
 refine zA ?_
 refine zc ?_
 refine zc (zI (zo (zD (zr ?_))))
 refine zc (zI (zo (zD (xj ?_))))
 refine AW.g ?_
 refine G.nilRow 96 2 ?_
 refine AW.u ?_
 refine zh [(0,_),(2,_),(5,_)] (fun nn E H=> ∃(i:Nat) (opts:List Opt) (last:Int) (V:Value),(Fits b opts last (b.drop i) false)∧(i≤b.length)∧(opts.length≤i)∧(0≤last∧last≤65804*opts.length)∧(V.oneCell'=true)∧nn=b.length-i∧E= [(6,.val (.int .i64 (i:Int))),(7,.val (.int .i64 last)),(8,.val V)]∧H= [.row V 96 2 opts.length (a0x opts),.blk B2 29 6 [.val (.int .i64 (((bt b 0).toNat:Int)/16%4)),.val (.int .i64 ((bt b 1).toNat:Int)),.val (.int .i64 (((bt b 2).toNat:Int)*256+((bt b 3).toNat:Int))),roB ((b.drop 4).take (4+c-4)),.val (.slice none 0 0),.val (.slice none 0 0)],.blk B1 29 6 [.val (.int .i64 0),.val (.int .i64 0),.val (.int .i64 0),.val (.slice none 0 0),.val (.slice none 0 0),.val (.slice none 0 0)]]) _ (⟨4+c,[],0,_,hf0,by omega,by simp,by simp,rfl,rfl,by rw[show((4+c:Nat):Int)=4+((bt b 0).toNat:Int)%16 by omega],rfl⟩) ?_
 rintro nn E H ⟨i,opts,last,V,hf,hi,hn,hl,hV,rfl,rfl,rfl⟩
 dsimp only[cA,cN]
 refine zD (zD (zr ?_))
 refine zb ?_
 refine zb ?_
 refine zW ?_
 refine zP ?_
 refine zb ?_
 refine yt ?_
 refine yt ?_
 refine AO.opG rfl rfl rfl (fun hp=>wW 73 rfl (by exact hp) (wW 74 rfl (by exact hp) (O.idxR rfl rfl rfl ⟨(by omega),(by(simp only[cond_true,cond_false,Bool.not_eq_true',Bool.not_eq_false',Bool.and_eq_true,Bool.or_eq_true,Bool.or_eq_false_iff,Bool.and_eq_false_imp,cQ,decide_eq_false_iff_not,beq_iff_eq,bne_iff_ne,bne_eq_false_iff_eq,ne_eq]at hp;omega))⟩))) ?_
 refine AO.opG rfl rfl rfl (fun hp=>wW 75 rfl (by exact hp) (O.loadR rfl rfl (by exact b0d (k:=i) (by(simp only[cond_true,cond_false,Bool.not_eq_true',Bool.not_eq_false',Bool.and_eq_true,Bool.or_eq_true,Bool.or_eq_false_iff,Bool.and_eq_false_imp,cQ,decide_eq_false_iff_not,beq_iff_eq,bne_iff_ne,bne_eq_false_iff_eq,ne_eq]at hp;omega)) (by omega)))) ?_
 refine xS 76 ?_
 refine zV (zI (zo ?_))
 refine yk (fun h4=> ?_) (fun h4=> ?_)<;>(try simp only[vX]at h4)
 ·have u4:=b0u (bt b i)
  obtain⟨v1,j,e1⟩: ∃v1 j,f0b b (((bt b i).toNat:Int)/16) (i+1)=(v1,j):=⟨_,_,rfl⟩
  obtain⟨v2,k,e2⟩: ∃v2 k,f0b b (((bt b i).toNat:Int)%16) j=(v2,k):=⟨_,_,rfl⟩
  have q1:=h0y b (n:=((bt b i).toNat:Int)/16) (by omega) (i:=i+1) (by omega)
  rw[e1]at q1
  simp only at q1
  have q2:=h0y b (n:=((bt b i).toNat:Int)%16) (by omega) (i:=j) (by omega)
  rw[e2]at q2
  simp only at q2
  have hst:=hf.refstep (by omega) h4.2 e1 e2
  refine yX (zo (xj (zD (zr ?_))))
  refine zb ?_
  refine zb ?_
  refine z8 ?_
  refine vT (O.loadR rfl rfl (by exact b0d (k:=i) (by omega) (by omega))) ?_
  refine zc (zI (zo (zD (zr ?_))))
  refine zb ?_
  refine zb ?_
  refine vT (wz 4 16) ?_
  refine xO ?_
  refine zb ?_
  refine zA ?_
  refine vT (O.callC rfl Tryz.func203 rfl rfl rfl (g0F e1 (by omega) (by omega) (by omega)) (by(repeat(first|exact CoeL.nil|refine CoeL.cons Coe.rfl ?_));done)) ?_
  refine zb ?_
  refine zO ?_
  refine zO ?_
  refine zc ?_
  refine zc (zI (zo (zD (zD (zr ?_)))))
  refine zb ?_
  refine zP (zI (zo ?_))
  refine yk (fun h5=> ?_) (fun h5=> ?_)<;>(try simp only[vX]at h5)
  ·have e:b0Y b=(Msg.none,4):=g0b (by omega) (by omega) fun m hm hr=>by
    have:=(hst m hm hr).1
    omega
   refine zD (zr ?_)
   refine zN ?_
   refine za 2 ?_
   refine zc (zI (zo (xc (xr ?_))))
   refine wi ?_
   refine AQ.loopR ?_
   refine wi (xr ?_)
   refine x8 zm zj (m0F e rfl)
  refine yX (zo (zD (zr ?_)))
  refine zb ?_
  refine zb ?_
  refine vT (O.and_ rfl rfl rfl (j0W 4 (by decide) (by decide) (m:=16) (by decide) (by omega))) ?_
  refine xO ?_
  refine zb ?_
  refine vT (xH rfl Tryz.func203 rfl rfl rfl (g0F e2 (by omega) (by omega) (by omega))) ?_
  refine zb ?_
  refine zO ?_
  refine zO ?_
  refine zc ?_
  refine zc (zI (zo (zD (zD (zr ?_)))))
  refine zb ?_
  refine zP ?_
  refine zb ?_
  refine yt ?_
  refine yt ?_
  refine yb 109 ?_
  refine yt ?_
  refine AO.opG rfl rfl rfl (fun hp=>wW 110 rfl (by exact hp) (vK 111 rfl (by exact hp))) ?_
  refine AO.opG rfl rfl rfl (fun hp=>wW 108 rfl (by exact hp) (wW 112 rfl (by exact hp) yI)) ?_
  refine zE (zI (zo ?_))
  refine yk (fun h6=> ?_) (fun h6=> ?_)<;>(try simp only[vX]at h6)
  ·have e:b0Y b=(Msg.none,4):=g0b (by omega) (by omega) fun m hm hr=>by
    have:=hst m hm hr
    omega
   refine zD (zr ?_)
   refine zN ?_
   refine za 2 ?_
   refine zc (zI (zo (xc (xr ?_))))
   refine wi ?_
   refine AQ.loopR ?_
   refine wi (xr ?_)
   refine x8 zm zj (m0F e rfl)
  obtain⟨z,rfl⟩: ∃z:Nat,v2=(z:Int):=⟨v2.toNat,by omega⟩
  have hf2:Fits b (opts++[⟨last+v1,(b.drop k).take (k+z-k)⟩]) (last+v1) (b.drop (k+z)) false:=fun m hm hr=>by
   obtain⟨-, -,g3,g4,g5,g6⟩:=hst m hm hr
   refine⟨rfl,by simpa using g4,by simpa using g5,by rw[b0j],by simpa using g6⟩
  have hsc:a0x (opts++[⟨last+v1,(b.drop k).take (k+z-k)⟩])=a0x opts++[.val (.int .i64 (last+v1)),roB ((b.drop k).take (k+z-k))]:=a0y _ _
  refine yX (zo (zD (zr ?_)))
  refine zb ?_
  refine zb ?_
  refine zA ?_
  refine zc (zI (zo (zD (zr ?_))))
  refine zb ?_
  refine zb ?_
  refine zb ?_
  refine zb ?_
  refine zb ?_
  refine zb ?_
  refine zA ?_
  refine vT (O.sliceLHB rfl rfl rfl rfl (lo:=k) (hi:=k+z) (by rfl) (by rfl) (by omega) (by omega)) ?_
  refine y0 ?_
  intro V4 hV4
  refine AO.g ?_
  refine yH 0 [127] ?_
  refine AO.u ?_
  dsimp only[List.map,List.eraseIdx,cA,cN]
  refine zN ?_
  refine zQ ?_
  intro B5
  refine AO.g ?_
  refine yc 0 129 ?_
  refine wd 129 ?_
  refine AO.u ?_
  dsimp only[List.eraseIdx]
  refine zx 0 ?_
  intro V6 hV6
  refine zc (zI (zo (zr ?_)))
  refine zb ?_
  refine zb ?_
  refine zA ?_
  refine zc (zI (xz ?_))
  refine zq _ _ _ (by omega) (⟨k+z,opts++[⟨last+v1,(b.drop k).take (k+z-k)⟩],last+v1,_,hf2,by omega,by simp;omega,by simp;omega,‹_›,rfl,rfl,by rw[hsc,cH]⟩)
 have hend:false=true∨b.drop i= []∨bt (b.drop i) 0=255:=by
  rcases Nat.lt_or_ge i b.length with h9|h9
  ·refine .inr (.inr ?_)
   rw[j0R]
   exact u8_eq.1 (h4 (by omega))
  exact .inr (.inl (List.drop_eq_nil_of_le h9))
 have hall:=hf.all hx hend rfl rfl rfl rfl
 refine AW.g ?_
 refine yf 0 [8] ?_
 refine AW.u ?_
 try dsimp only[List.map,List.eraseIdx,cA,cN]
 refine AW.g ?_
 refine G.coeCell 0 5 rfl rfl Coe.nil ?_
 refine AW.u ?_
 refine wb ?_
 refine xY ?_
 refine x3 ?_
 refine xx (zo (zD (zr ?_)))
 refine zb ?_
 refine zt ?_
 refine za 0 (zI (zo (zD (zD (zr ?_)))))
 refine zb ?_
 refine zb ?_
 refine zW ?_
 refine zP (zI (zo ?_))
 refine xL True [(0,_),(2,_),(5,_)] [] [.blk B2 29 6 [.val (.int .i64 (((bt b 0).toNat:Int)/16%4)),.val (.int .i64 ((bt b 1).toNat:Int)),.val (.int .i64 (((bt b 2).toNat:Int)*256+((bt b 3).toNat:Int))),roB ((b.drop 4).take (4+c-4)),roO opts,roB ((b.drop i).drop 1)],.blk B1 29 6 [.val (.int .i64 0),.val (.int .i64 0),.val (.int .i64 0),.val (.slice none 0 0),.val (.slice none 0 0),.val (.slice none 0 0)]] (fun hb=> ?_) (fun hb=> ?_) (fun hj=> ?_)<;>try(try simp only[vX]at hb)
 ·rw[show(b.drop i).drop 1=b.drop (i+1) by simp]
  refine zr ?_
  refine zb ?_
  refine zb ?_
  refine zA ?_
  refine vT (O.sliceFromB (k:=i+1) rfl rfl rfl (by rfl) (by omega)) ?_
  refine y0 ?_
  intro V7 hV7
  refine AO.g ?_
  refine yH 0 [144] ?_
  refine AO.u ?_
  dsimp only[List.map,List.eraseIdx,cA,cN]
  refine zt ?_
  refine za 0 (zI ?_)
  refine vb
 ·rw[show(b.drop i).drop 1= [] by simp;omega]
  refine yX ?_
  refine wR
 dsimp only[cA,cN]
 refine zo (zD (zD ?_))
 refine yw 11 ?_
 simp only[cT,cZ,cD,cO]
 refine vo ?_
 refine vS (xH rfl Tryz.func164 rfl rfl rfl (f0v (s0I b ((b.drop 4).take (4+c-4)) opts (b.drop i)))) ?_
 refine vS xv ?_
 refine zG ?_
 refine FA.opG rfl rfl rfl rfl (fun hp=>zu) ?_
 refine FA.opG rfl rfl rfl rfl (fun hp=>wW 150 rfl (by exact hp) (O.call rfl Tryz.func165 rfl rfl rfl (m0V (s0I b ((b.drop 4).take (4+c-4)) opts (b.drop i)) (by have:=hp;simp only[cond_false,Bool.not_not,cQ]at this;exact this.1)))) ?_
 refine FA.opG rfl rfl rfl rfl (fun hp=>wW 151 rfl (by exact hp) (O.convS rfl rfl (by rfl))) ?_
 refine FA.opG rfl rfl rfl rfl (fun hp=>zg) ?_
 refine FA.opG rfl rfl rfl rfl (fun hp=>wW 153 rfl (by exact hp) (O.convS rfl rfl (by rfl))) ?_
 refine FA.opG rfl rfl rfl rfl (fun hp=>wW 152 rfl (by exact hp) (wW 154 rfl (by exact hp) (O.neqS rfl rfl rfl (by rfl)))) ?_
 refine vS zK ?_
 refine wZ ?_
 simp only[a0f,cN,cA,cP]
 refine zI (zo ?_)
 refine yk (fun h6=> ?_) (fun h6=> ?_)<;>(try simp only[vX]at h6)
 ·have e:b0Y b=(Msg.none,4):=g0b (by omega) (by omega) fun m hm hr=>by
   obtain⟨g1,g2⟩:=hall m hm hr
   subst g2
   rcases h6 with h6|h6
   ·exact h6 ⟨hm,by rw[hr];omega⟩
   exact h6 hr
  refine zD (zr ?_)
  refine zN ?_
  refine za 1 ?_
  refine zc (zI (zo (xc (xr ?_))))
  refine x8 zm zj (m0F e rfl)
 have e:b0Y b=(s0I b ((b.drop 4).take (4+c-4)) opts (b.drop i),0):=k0R (by omega) (by omega) h6.1.1 h6.2 fun m hm hr=>(hall m hm hr).2
 refine yX (zo (zD (zr ?_)))
 refine zB ?_
 refine za 1 ?_
 refine zc (zI (zo (xc ?_)))
 refine x8 zm xe (m0F e rfl)
end Go.Proofs.YtojomcdjcpmnkaaGreat.By
namespace Go.Proofs.YtojomcdjcpmnkaaGreat.By
open Go.RowKit L A
attribute [local irreducible] AW AQ AO
def pkM (m:Msg):Msg:=⟨0,m.code,0,[],m.opts,m.pay⟩
def b0n (m:Msg):List UInt8×Int:=
 if rq m.code=true∨rs m.code=true then(if(d0X (pkM m)).2=0 then(u8 m.code::(d0X (pkM m)).1.drop 4,0)else([],(d0X (pkM m)).2))else([],1)
abbrev u0P (r:List UInt8×Int):AV:= .tup [roB r.1,.val (.int .i64 r.2)]
theorem s0z {r:List UInt8×Int}{a:List UInt8}{e:Int}(h:r=(a,e)):Is (u0P r) (.tup [roB a,.val (.int .i64 e)]) []:=by rw[h];exact⟨rfl,rfl⟩
def unB (b:List UInt8):List UInt8:=64::bt b 0::0::0::b.drop 1
noncomputable def a0E (b:List UInt8):Msg×Int:=
 if b= []then(Msg.none,2)else if rq ((bt b 0).toNat:Int)=true∨rs ((bt b 0).toNat:Int)=true then b0Y (unB b)else(Msg.none,4)
theorem f0w {r:Msg×Int}{a:Msg}{e:Int}(h:r=(a,e)):Is (g0r r) (.tup [a0U a,.val (.int .i64 e)]) []:=by rw[h];exact⟨rfl,rfl⟩
theorem o0V (m:Msg):4≤(raw m).length:=by simp only[raw,f0K,cH,cL,cE];omega
theorem f0W {m:Msg}(h:(d0X m).2=0):4≤(d0X m).1.length∧(d0X m).1.length≤4096:=by
 by_cases hv:ValM m
 ·rw[g0S hv];exact⟨o0V m,by have:=hv.2;simp only;omega⟩
 rw[g0T hv]at h;cases h
theorem r0A (m:Msg):Sp Tryz.prog 115 [a0U m] [] (Is (u0P (b0n m))):=by
 refine yN Tryz.func115 _ Tryz.ntmps115 (fun w0 R0=> ?_)
 refine zD (zr ?_)
 refine ye ?_
 intro B1
 refine zc ?_
 refine zc (zI (zo (zD (zD (zr ?_)))))
 refine zt ?_
 refine zy ?_
 refine vT (xH rfl Tryz.func152 rfl rfl rfl (c0R m.code)) ?_
 refine xq ?_
 refine zb ?_
 refine zM ?_
 refine zv 11 ?_
 refine AO.opG rfl rfl rfl (fun hp=>wW 12 rfl (by exact hp) (xH rfl Tryz.func153 rfl rfl rfl (c0w m.code))) ?_
 refine yZ 13 ?_
 refine zV (zI (zo ?_))
 refine yk (fun h=> ?_) (fun h=> ?_)<;>(try simp only[vX]at h)
 ·have e:b0n m=([],1):=if_neg (by rw[h.1,h.2];simp)
  refine zD (zr ?_)
  refine zc ?_
  refine zc (zI (zo (xc (xr ?_))))
  refine x8 yJ yq (s0z e)
 have hc:rq m.code=true∨rs m.code=true:=by cases hq:rq m.code<;>simp_all
 refine yX (zo (zD (zr ?_)))
 refine zt ?_
 refine zy ?_
 refine zt ?_
 refine zy ?_
 refine zt ?_
 refine zy ?_
 refine zN ?_
 refine vT (wg rfl Tryz.func119 rfl rfl rfl (n0K (pkM m))) ?_
 refine zb ?_
 refine zO ?_
 refine zO ?_
 refine zc ?_
 refine zc (zI (zo (zD (zD (zr ?_)))))
 refine zb ?_
 refine y1 (zI (zo ?_))
 refine yk (fun h2=> ?_) (fun h2=> ?_)<;>(try simp only[vX]at h2)
 ·have e:b0n m=([],(d0X (pkM m)).2):=by rw[b0n,if_pos hc,if_neg h2]
  refine zD (zr ?_)
  refine zb ?_
  refine zc ?_
  refine zc (zI (zo (xc (xr ?_))))
  refine x8 yJ yq (s0z e)
 have hl:=f0W h2
 have e:b0n m=(u8 m.code::(d0X (pkM m)).1.drop 4,0):=by rw[b0n,if_pos hc,if_pos h2]
 refine yX (zo (zD ?_))
 refine yw 6 ?_
 simp only[cT,cZ,cD,cO]
 refine yr ?_
 refine yL ?_
 refine vS (O.conv rfl rfl c0Q) ?_
 refine FA.opN zU rfl rfl rfl rfl ?_
 refine zG ?_
 refine vS (O.sliceFromB (k:=4) rfl rfl rfl (by rfl) (by omega)) ?_
 refine wZ ?_
 simp only[a0f,cN,cA,cP]
 rintro _ _ ⟨B2,rfl,rfl⟩
 simp only[cA,cN]
 refine AO.g ?_
 refine G.closeRow (n:=1) (cap:=1) 0 rfl rfl rfl (Nat.le_refl _) (by(unfold maxLen;omega)) ?_
 refine AO.u ?_
 dsimp only[List.set]
 refine xy 0 ?_
 intro V3 hV3
 refine zc ?_
 refine zc (zI (zo (xc ?_)))
 refine AQ.g ?_
 refine yf 0 [2] ?_
 refine AQ.u ?_
 try dsimp only[List.map,List.eraseIdx,cA,cN]
 refine AQ.g ?_
 refine G.re 2 (roB (u8 m.code::(d0X (pkM m)).1.drop 4)) (congrArg some (b0l (by rw[cL];omega) rfl)) ?_
 refine AQ.u ?_
 refine x8 yJ xe (s0z e)
theorem o0K (m:Msg):Sp Tryz.prog 127 [a0U m] [] (Is (u0P (b0n m))):=by
 refine yN Tryz.func127 _ Tryz.ntmps127 (fun w0 R0=> ?_)
 refine zD (zr ?_)
 refine ye ?_
 intro B1
 refine zc ?_
 refine zc (zI (zo (zD (zD (zr ?_)))))
 refine zt ?_
 refine zy ?_
 refine vT (xH rfl Tryz.func63 rfl rfl rfl (b0O m.code)) ?_
 refine xq ?_
 refine zb ?_
 refine zM ?_
 refine zv 11 ?_
 refine AO.opG rfl rfl rfl (fun hp=>wW 12 rfl (by exact hp) (xH rfl Tryz.func83 rfl rfl rfl (b0H m.code))) ?_
 refine yZ 13 ?_
 refine zV (zI (zo ?_))
 refine yk (fun h=> ?_) (fun h=> ?_)<;>(try simp only[vX]at h)
 ·have e:b0n m=([],1):=if_neg (by rw[h.1,h.2];simp)
  refine zD (zr ?_)
  refine zc ?_
  refine zc (zI (zo (xc (xr ?_))))
  refine x8 yJ yq (s0z e)
 have hc:rq m.code=true∨rs m.code=true:=by cases hq:rq m.code<;>simp_all
 refine yX (zo (zD (zr ?_)))
 refine zt ?_
 refine zy ?_
 refine zt ?_
 refine zy ?_
 refine zt ?_
 refine zy ?_
 refine zN ?_
 refine vT (wg rfl Tryz.func120 rfl rfl rfl (j0m (pkM m))) ?_
 refine zb ?_
 refine zO ?_
 refine zO ?_
 refine zc ?_
 refine zc (zI (zo (zD (zD (zr ?_)))))
 refine zb ?_
 refine y1 (zI (zo ?_))
 refine yk (fun h2=> ?_) (fun h2=> ?_)<;>(try simp only[vX]at h2)
 ·have e:b0n m=([],(d0X (pkM m)).2):=by rw[b0n,if_pos hc,if_neg h2]
  refine zD (zr ?_)
  refine zb ?_
  refine zc ?_
  refine zc (zI (zo (xc (xr ?_))))
  refine x8 yJ yq (s0z e)
 have hl:=f0W h2
 have e:b0n m=(u8 m.code::(d0X (pkM m)).1.drop 4,0):=by rw[b0n,if_pos hc,if_pos h2]
 refine yX (zo (zD ?_))
 refine yw 6 ?_
 simp only[cT,cZ,cD,cO]
 refine yr ?_
 refine yL ?_
 refine vS (O.conv rfl rfl c0Q) ?_
 refine FA.opN zU rfl rfl rfl rfl ?_
 refine zG ?_
 refine vS (O.sliceFromB (k:=4) rfl rfl rfl (by rfl) (by omega)) ?_
 refine wZ ?_
 simp only[a0f,cN,cA,cP]
 rintro _ _ ⟨B2,rfl,rfl⟩
 simp only[cA,cN]
 refine AO.g ?_
 refine G.closeRow (n:=1) (cap:=1) 0 rfl rfl rfl (Nat.le_refl _) (by(unfold maxLen;omega)) ?_
 refine AO.u ?_
 dsimp only[List.set]
 refine xy 0 ?_
 intro V3 hV3
 refine zc ?_
 refine zc (zI (zo (xc ?_)))
 refine AQ.g ?_
 refine yf 0 [2] ?_
 refine AQ.u ?_
 try dsimp only[List.map,List.eraseIdx,cA,cN]
 refine AQ.g ?_
 refine G.re 2 (roB (u8 m.code::(d0X (pkM m)).1.drop 4)) (congrArg some (b0l (by rw[cL];omega) rfl)) ?_
 refine AQ.u ?_
 refine x8 yJ xe (s0z e)
theorem n0O {n:Nat}{xs:List AV}{l:List UInt8}(h1:n=l.length)(h2:xs=a0a l)(hl:l.length≤1000000):Sp Tryz.prog 173 [.ro false n xs] [] (Is (g0r (b0Y l))):=by
 subst h1;subst h2;exact n0P l hl
theorem l0n {n:Nat}{xs:List AV}{l:List UInt8}(h1:n=l.length)(h2:xs=a0a l)(hl:l.length≤1000000):Sp Tryz.prog 191 [.ro false n xs] [] (Is (g0r (b0Y l))):=by
 subst h1;subst h2;exact l0o l hl
theorem h0T {b:List UInt8}(h:0<b.length):a0a (unB b)= [.val (.int .u8 64),.val (.int .u8 ((bt b 0).toNat:Int)),.val (.int .u8 0),.val (.int .u8 0)]++a0a (b.drop 1):=rfl
theorem h0e {b:List UInt8}(h:0<b.length):(unB b).length=b.length+3:=by unfold unB;simp;omega
theorem o0W {m:Msg}{b:List UInt8}(hm:OkM m)(h:raw m=unB b):m.ty=0∧m.id=0∧m.tok= []:=by
 obtain⟨⟨a1,a2, -⟩,⟨a3,a4,a5, -⟩, -⟩:=hm
 have h0:=congrArg (fun l=>bt l 0) h
 have h2:=congrArg (fun l=>bt l 2) h
 have h3:=congrArg (fun l=>bt l 3) h
 have e0:bt (raw m) 0=u8 (64+16*m.ty+m.tok.length):=rfl
 have e2:bt (raw m) 2=u8 (m.id/256):=rfl
 have e3:bt (raw m) 3=u8 m.id:=rfl
 have f0:bt (unB b) 0=64:=rfl
 have f2:bt (unB b) 2=0:=rfl
 have f3:bt (unB b) 3=0:=rfl
 simp only[e0,e2,e3,f0,f2,f3]at h0 h2 h3
 have g0:=a0F (x:=64+16*m.ty+m.tok.length) (by omega)
 have g2:=a0F (x:=m.id/256) (by omega)
 have g3:=c0d m.id
 rw[h0]at g0
 rw[h2]at g2
 rw[h3]at g3
 have k0:((64:UInt8).toNat:Int)=64:=rfl
 have k2:((0:UInt8).toNat:Int)=0:=rfl
 rw[k0]at g0
 rw[k2]at g2 g3
 exact⟨by omega,by omega,List.eq_nil_of_length_eq_zero (by omega)⟩
theorem p0K (b:List UInt8)(h:(b0Y (unB b)).2=0):(b0Y (unB b)).1.ty=0∧(b0Y (unB b)).1.id=0∧(b0Y (unB b)).1.tok= []:=by
 have:=n0Q h
 exact o0W this.1.1 this.2
theorem n0R (b:List UInt8)(h:(b0Y b).2≠0):(b0Y b).1=Msg.none:=by
 unfold b0Y at h⊢
 (repeat' split)<;>first|rfl|skip
 all_goals simp_all
theorem m0i (b:List UInt8)(hb:b.length≤900000):Sp Tryz.prog 140 [roB b] [] (Is (g0r (a0E b))):=by
 refine yN Tryz.func140 _ Tryz.ntmps140 (fun w0 R0=> ?_)
 refine zD (zr ?_)
 refine zd ?_
 intro B1
 refine zc (zI (zo (zD (zD (zr ?_)))))
 refine zb ?_
 refine zW ?_
 refine z9 (zI (zo ?_))
 refine yk (fun h=> ?_) (fun h=> ?_)<;>(try simp only[vX]at h)
 ·have e:a0E b=(Msg.none,2):=if_pos (List.eq_nil_of_length_eq_zero (by omega))
  refine zD (zr ?_)
  refine zN ?_
  refine za 0 ?_
  refine zc (zI (zo (xc (xr ?_))))
  refine x8 zT zj (f0w e)
 have hb0:0<b.length:=by omega
 have hbn:b≠ []:=fun e=>by rw[e]at hb0;cases hb0
 have hub:=b0u (bt b 0)
 refine yX (zo (zD (zD (zr ?_))))
 refine zb ?_
 refine z8 ?_
 refine vT (O.loadR rfl rfl (by exact b0d (k:=0) hb0 rfl)) ?_
 refine xO ?_
 refine zc (zI (zo (zD (zr ?_))))
 refine zb ?_
 refine vT (xH rfl Tryz.func152 rfl rfl rfl (c0R _)) ?_
 refine xq ?_
 refine zb ?_
 refine yt ?_
 refine AO.opG rfl rfl rfl (fun hp=>wW 17 rfl (by exact hp) (xH rfl Tryz.func153 rfl rfl rfl (c0w _))) ?_
 refine yZ 18 ?_
 refine zV (zI (zo ?_))
 refine yk (fun h2=> ?_) (fun h2=> ?_)<;>(try simp only[vX]at h2)
 ·have e:a0E b=(Msg.none,4):=by rw[a0E,if_neg hbn,if_neg (by rw[h2.1,h2.2];simp)]
  refine zD (zr ?_)
  refine zN ?_
  refine za 0 ?_
  refine zc (zI (zo (xc (xr ?_))))
  refine x8 zT zj (f0w e)
 have hc:rq ((bt b 0).toNat:Int)=true∨rs ((bt b 0).toNat:Int)=true:=by cases hq:rq ((bt b 0).toNat:Int)<;>simp_all
 have e:a0E b=((b0Y (unB b)).1,(b0Y (unB b)).2):=by rw[a0E,if_neg hbn,if_pos hc]
 refine yX (zo (zD ?_))
 refine AW.regionM [(0,false),(1,false),(2,false),(4,false),(5,false),(3,true),(6,true),(7,false),(8,false),(9,false),(10,true),(11,false)] (by kernel_rfl) (by kernel_rfl) (by exact(by exact a0C 2 0 rfl rfl a0h)) ?_
 dsimp only[List.eraseIdx]
 refine yR ?_
 refine vU rfl z6 ?_
 refine vU rfl (O.loadR rfl rfl (by exact b0d (k:=0) hb0 rfl)) ?_
 refine yR ?_
 refine vU rfl (O.sliceFromB (k:=1) rfl rfl rfl (by rfl) (by omega)) ?_
 refine xX _ (fun w0 R0=> ?_)
 refine y6 ?_
 intro B2
 refine AO.g ?_
 refine xN B2 4 4 0 rfl rfl rfl (Nat.le_refl _) ?_
 refine AO.u ?_
 dsimp only[List.set]
 refine AM.ok ?_
 dsimp only[a0z]
 refine xX _ (fun w0 R0=> ?_)
 refine xy 0 ?_
 intro V3 hV3
 refine AO.g ?_
 refine yH 0 [28] ?_
 refine AO.u ?_
 dsimp only[List.map,List.eraseIdx,cA,cN]
 refine AM.ok ?_
 dsimp only[a0z]
 refine vU rfl (xH rfl Tryz.func173 rfl rfl rfl (n0O (by rw[h0e hb0,List.length_drop];omega) (h0T hb0).symm (by rw[h0e hb0];omega))) ?_
 refine vU rfl yy ?_
 refine vU rfl yy ?_
 refine xX _ (fun w0 R0=> ?_)
 refine za 0 (AM.okN ?_)
 dsimp only[a0z]
 refine wM ?_
 refine vg ?_
 dsimp only[cA,cN]
 refine zo (xc ?_)
 refine x8 zT xe (f0w e)
theorem l0k (b:List UInt8)(hb:b.length≤900000):Sp Tryz.prog 174 [roB b] [] (Is (g0r (a0E b))):=by
 refine yN Tryz.func174 _ Tryz.ntmps174 (fun w0 R0=> ?_)
 refine zD (zr ?_)
 refine zd ?_
 intro B1
 refine zc (zI (zo (zD (zD (zr ?_)))))
 refine zb ?_
 refine zW ?_
 refine z9 (zI (zo ?_))
 refine yk (fun h=> ?_) (fun h=> ?_)<;>(try simp only[vX]at h)
 ·have e:a0E b=(Msg.none,2):=if_pos (List.eq_nil_of_length_eq_zero (by omega))
  refine zD (zr ?_)
  refine zN ?_
  refine za 0 ?_
  refine zc (zI (zo (xc (xr ?_))))
  refine x8 zT zj (f0w e)
 have hb0:0<b.length:=by omega
 have hbn:b≠ []:=fun e=>by rw[e]at hb0;cases hb0
 have hub:=b0u (bt b 0)
 refine yX (zo (zD (zD (zr ?_))))
 refine zb ?_
 refine z8 ?_
 refine vT (O.loadR rfl rfl (by exact b0d (k:=0) hb0 rfl)) ?_
 refine xO ?_
 refine zc (zI (zo (zD (zr ?_))))
 refine zb ?_
 refine vT (xH rfl Tryz.func63 rfl rfl rfl (b0O _)) ?_
 refine xq ?_
 refine zb ?_
 refine yt ?_
 refine AO.opG rfl rfl rfl (fun hp=>wW 19 rfl (by exact hp) (xH rfl Tryz.func83 rfl rfl rfl (b0H _))) ?_
 refine yZ 20 ?_
 refine zV (zI (zo ?_))
 refine yk (fun h2=> ?_) (fun h2=> ?_)<;>(try simp only[vX]at h2)
 ·have e:a0E b=(Msg.none,4):=by rw[a0E,if_neg hbn,if_neg (by rw[h2.1,h2.2];simp)]
  refine zD (zr ?_)
  refine zN ?_
  refine za 0 ?_
  refine zc (zI (zo (xc (xr ?_))))
  refine x8 zT zj (f0w e)
 have hc:rq ((bt b 0).toNat:Int)=true∨rs ((bt b 0).toNat:Int)=true:=by cases hq:rq ((bt b 0).toNat:Int)<;>simp_all
 have e:a0E b=((b0Y (unB b)).1,(b0Y (unB b)).2):=by rw[a0E,if_neg hbn,if_pos hc]
 refine yX (zo (zD ?_))
 refine AW.regionA _ (Al.mk' (i:=11) (d:=5) (T:=29) _ rfl rfl rfl rfl rfl (by(dsimp only[List.set,cA,cN,List.take,List.drop];done)) (by rfl)) [(0,false),(1,false),(2,false),(4,false),(5,false),(3,true),(6,true),(7,false),(8,false),(9,false),(10,false),(11,true),(12,true),(13,false)] (by kernel_rfl) (by kernel_rfl) (by exact a0h) ?_
 dsimp only[List.eraseIdx]
 refine vy ?_
 refine AN.op rfl z6 rfl rfl rfl ?_
 refine AN.op rfl (O.loadR rfl rfl (by exact b0d (k:=0) hb0 rfl)) rfl rfl rfl ?_
 refine vy ?_
 refine AN.op rfl (O.sliceFromB (k:=1) rfl rfl rfl (by rfl) (by omega)) rfl rfl rfl ?_
 refine AN.main _ rfl rfl (fun w0 R0=> ?_)
 refine y6 ?_
 intro B2
 refine AO.g ?_
 refine xN B2 4 4 0 rfl rfl rfl (Nat.le_refl _) ?_
 refine AO.u ?_
 dsimp only[List.set]
 refine AM.ok ?_
 dsimp only[a0z]
 refine AN.main _ rfl rfl (fun w0 R0=> ?_)
 refine xy 0 ?_
 intro V3 hV3
 refine AO.g ?_
 refine yH 0 [31] ?_
 refine AO.u ?_
 dsimp only[List.map,List.eraseIdx,cA,cN]
 refine AM.ok ?_
 dsimp only[a0z]
 refine AN.op rfl (xH rfl Tryz.func191 rfl rfl rfl (l0n (by rw[h0e hb0,List.length_drop];omega) (h0T hb0).symm (by rw[h0e hb0];omega))) rfl rfl rfl ?_
 refine vy ?_
 refine AN.op rfl yy rfl rfl rfl ?_
 refine AN.op rfl yy rfl rfl rfl ?_
 refine AN.box rfl ?_
 intro B4
 dsimp only[Al.he]
 refine AN.main _ rfl rfl (fun w0 R0=> ?_)
 refine za 0 (AM.okN ?_)
 dsimp only[a0z]
 refine AN.op rfl zi rfl rfl rfl ?_
 refine AN.nil ?_
 dsimp only[cA,cN]
 refine zo (zD (zD (zr ?_)))
 refine zb ?_
 refine y1 (zI (zo ?_))
 refine yk (fun h5=> ?_) (fun h5=> ?_)<;>(try simp only[vX]at h5)
 ·have e2:a0E b=(Msg.none,(b0Y (unB b)).2):=by rw[e,n0R _ h5]
  refine zD (zr ?_)
  refine zN ?_
  refine zb ?_
  refine za 1 ?_
  refine zc (zI (zo (xc (xr ?_))))
  refine x8 zm zj (f0w e2)
 have hz:=p0K b h5
 have e2:a0E b=(⟨0,(b0Y (unB b)).1.code,0,[],(b0Y (unB b)).1.opts,(b0Y (unB b)).1.pay⟩,0):=by
  rw[e,h5]
  refine congrArg (fun z=>(z,(0:Int))) ?_
  generalize(b0Y (unB b)).1=m at hz
  obtain⟨ty,code,id,tok,opts,pay⟩:=m
  obtain⟨rfl,rfl,rfl⟩:=hz
  rfl
 refine yX (zo (zD (zr ?_)))
 refine zt ?_
 refine zy ?_
 refine zt ?_
 refine zy ?_
 refine zt ?_
 refine zy ?_
 refine zN ?_
 refine za 1 ?_
 refine zc (zI (zo (xc ?_)))
 refine x8 zm zj (f0w e2)
abbrev pt (b:Nat):AV:= .val (.pointer (some ⟨b,0,none⟩))
abbrev stB (b:Nat)(f:Nat→UInt8):HE:= .blk b 185 16 (arB 16 f)
theorem m0o {b:Nat}{f g:Nat→UInt8}(h: ∀q,q<16→f q=g q): [stB b f]= [stB b g]:=congrArg (fun x=> [HE.blk b 185 16 x]) (a0c h)
theorem h0h {b:Nat}{f g:Nat→UInt8}(h: ∀q,q<16→f q=g q):stB b f=stB b g:=congrArg (fun x=>HE.blk b 185 16 x) (a0c h)
theorem j0g (b:Nat)(f k:Nat→UInt8):Sp Tryz.prog 206 [pt b,.agg (arB 16 k)] [stB b f] (IsM (.val (.tuple #[])) (stB b fun q=>f q^^^k q)):=by
 refine yN Tryz.func206 _ Tryz.ntmps206 (fun w0 R0=> ?_)
 refine zD (zr ?_)
 refine ye ?_
 intro B1
 refine zI (zo (zD (zr ?_)))
 refine zb (zI (zo (xj ?_)))
 refine zh [(0,_),(3,_)] (fun nn E H=> ∃(i:Nat),(i≤16)∧nn=16-i∧E= [(5,.val (.int .i64 (i:Int)))]∧H= [.blk B1 185 16 (arB 16 k),stB b (fun q=>if q<i then f q^^^k q else f q)]) _ (⟨0,by omega,rfl,rfl,rfl⟩) ?_
 rintro nn E H ⟨i,hi,rfl,rfl,rfl⟩
 dsimp only[cA,cN]
 refine zD (zr ?_)
 refine zP (zI (zo (zD ?_)))
 refine yk (fun h=> ?_) (fun h=> ?_)<;>(try simp only[vX]at h)
 ·refine yX (zo (zD (xj (zD (zr ?_)))))
  refine zb ?_
  refine zc (zI (zo ?_))
  refine yw 11 ?_
  simp only[cT,cZ,cD,cO]
  refine zG ?_
  refine zG ?_
  refine vS vP ?_
  refine yP ?_
  refine vS (O.load rfl rfl mM (by exact a0o (k:=i) (by omega) (by omega))) ?_
  refine zG ?_
  refine yP ?_
  refine vS (O.load rfl rfl (by repeat(exact List.Mem.head _)) (by exact a0o (k:=i) (by omega) (by omega))) ?_
  refine wm ?_
  refine vS vP ?_
  refine yP ?_
  refine wZ ?_
  simp only[a0f,cN,cA,cP]
  refine yM 1 rfl rfl rfl rfl rfl rfl (by rfl) (by rfl) (by exact Nat.ble_eq_true_of_le (by rw[a0b];omega)) (by exact a0M (k:=i) (by omega) _ (by omega)) (zI (xz (zo (zr ?_))))
  refine zA ?_
  refine zb (zI ?_)
  have e:stB b (fun q=>if q=i then(if i<i then f i^^^k i else f i)^^^k i else if q<i then f q^^^k q else f q)=stB b (fun q=>if q<i+1 then f q^^^k q else f q):=h0h fun q _=>by
   rcases Nat.lt_trichotomy q i with h1|rfl|h1
   ·rw[if_neg (by omega),if_pos h1,if_pos (by omega)]
   ·rw[if_pos rfl,if_neg (by omega),if_pos (by omega)]
   rw[if_neg (by omega),if_neg (by omega),if_neg (by omega)]
  refine zq _ _ _ (by omega) (⟨i+1,by omega,rfl,rfl,congrArg (fun x=> [HE.blk B1 185 16 (arB 16 k),x]) e⟩)
 obtain rfl:i=16:=by omega
 refine wb ?_
 refine xY ?_
 refine x3 ?_
 refine xx ?_
 have e: [stB b (fun q=>if q<16 then f q^^^k q else f q)]= [stB b (fun q=>f q^^^k q)]:=m0o fun q hq=>if_pos hq
 refine AQ.retN (AQ.ret0 rfl ⟨_,by repeat(first|exact List.Sublist.slnil|refine List.Sublist.cons_cons _ ?_|refine List.Sublist.cons _ ?_),List.Perm.refl _⟩ (⟨rfl,e⟩))
theorem m0j (v:UInt8):0≤(v.toNat:Int)∧(v.toNat:Int)<((256:Nat):Int):=by have:=v.toNat_lt;omega
def j0Z (xs:List AV)(o:Nat)(S:UInt8→UInt8):Prop:= ∀v:UInt8,xs[o+v.toNat]? =some (by8 (S v))
def shF (S:UInt8→UInt8)(d:Nat)(f:Nat→UInt8)(i:Nat):UInt8:=S (f (i%4+4*((i/4+d*(i%4))%4)))
theorem r0d {i:Nat}(hi:i<16)(f:Nat→UInt8):(arB 16 f)[0+((i:Int)%4+4*(((i:Int)/4+1*((i:Int)%4))%4)).toNat*1]? =some (by8 (f (i%4+4*((i/4+1*(i%4))%4)))):=
 a0o (by omega) (by
  have:((i:Int)%4+4*(((i:Int)/4+1*((i:Int)%4))%4))=((i%4+4*((i/4+1*(i%4))%4):Nat):Int):=by push_cast;rfl
  rw[this,Int.toNat_natCast];omega)
theorem e0F {xs:List AV}{o:Nat}{S:UInt8→UInt8}(h:j0Z xs o S)(v:UInt8):xs[o+(v.toNat:Int).toNat*1]? =some (by8 (S v)):=by rw[Int.toNat_natCast,Nat.mul_one];exact h v
theorem m0w (b:Nat)(f:Nat→UInt8)(xs:List AV)(o:Nat)(S:UInt8→UInt8)(hS:j0Z xs o S):Sp Tryz.prog 207 [pt b,.rp xs o,.val (.int .i64 1)] [stB b f] (IsM (.val (.tuple #[])) (stB b (shF S 1 f))):=by
 refine yN Tryz.func207 _ Tryz.ntmps207 (fun w0 R0=> ?_)
 refine zD (zr ?_)
 refine zb ?_
 refine vA ?_
 refine zB ?_
 refine zd ?_
 intro B1
 refine AO.store (i:=0) rfl rfl rfl rfl rfl rfl (by rfl) (by rfl) (by rfl) (by exact b0t rfl) (by(dsimp only[List.set,cA,cN,List.take,List.drop];done)) (zI (zo (zD (zr ?_))))
 refine zb (zI (zo (xj ?_)))
 refine zh [(0,_),(1,_),(2,_),(6,_)] (fun nn E H=> ∃(i:Nat),(i≤16)∧nn=16-i∧E= [(13,.val (.int .i64 (i:Int)))]∧H= [.blk B1 185 16 (arB 16 f),stB b (fun q=>if q<i then shF S 1 f q else f q)]) _ (⟨0,by omega,rfl,rfl,rfl⟩) ?_
 rintro nn E H ⟨i,hi,rfl,rfl,rfl⟩
 dsimp only[cA,cN]
 refine zD (zr ?_)
 refine zP (zI (zo (zD ?_)))
 refine yk (fun h=> ?_) (fun h=> ?_)<;>(try simp only[vX]at h)
 ·have hi':i<16:=by omega
  refine yX (zo (zD (xj (zD (zr ?_)))))
  refine zb ?_
  refine zc (zI (zo (zD (zr ?_))))
  refine zb ?_
  refine wk ?_
  refine zb ?_
  refine wI ?_
  refine zc ?_
  refine zc (zI (zo ?_))
  refine yw 19 ?_
  simp only[cT,cZ,cD,cO]
  refine zG ?_
  refine zG ?_
  refine zG ?_
  refine zG ?_
  refine zG ?_
  refine zG ?_
  refine zG ?_
  refine xt ?_
  refine xk ?_
  refine vS wc ?_
  refine xt ?_
  refine xk ?_
  refine xl ?_
  refine vS (O.load rfl rfl (by repeat(exact List.Mem.head _)) (by exact r0d hi' f)) ?_
  refine vS (O.nilCheckR rfl rfl) ?_
  refine vS (O.idxLR rfl rfl rfl (by exact m0j _)) ?_
  refine vS (O.loadR rfl rfl (by exact e0F hS _)) ?_
  refine vS vP ?_
  refine xl ?_
  refine wZ ?_
  simp only[a0f,cN,cA,cP]
  refine yM 1 rfl rfl rfl rfl rfl rfl (by rfl) (by rfl) (by exact Nat.ble_eq_true_of_le (by rw[a0b];omega)) (by exact a0M (k:=i) (by omega) _ (by omega)) (zI (xz (zo (zr ?_))))
  refine zA ?_
  refine zb (zI ?_)
  have e:stB b (fun q=>if q=i then shF S 1 f i else if q<i then shF S 1 f q else f q)=stB b (fun q=>if q<i+1 then shF S 1 f q else f q):=h0h fun q _=>by
   rcases Nat.lt_trichotomy q i with h1|rfl|h1
   ·rw[if_neg (by omega),if_pos h1,if_pos (by omega)]
   ·rw[if_pos rfl,if_pos (by omega)]
   rw[if_neg (by omega),if_neg (by omega),if_neg (by omega)]
  refine zq _ _ _ (by omega) (⟨i+1,by omega,rfl,rfl,congrArg (fun x=> [HE.blk B1 185 16 (arB 16 f),x]) e⟩)
 obtain rfl:i=16:=by omega
 refine wb ?_
 refine xY ?_
 refine x3 ?_
 refine xx ?_
 have e: [stB b (fun q=>if q<16 then shF S 1 f q else f q)]= [stB b (shF S 1 f)]:=m0o fun q hq=>if_pos hq
 refine AQ.retN (AQ.ret0 rfl ⟨_,by repeat(first|exact List.Sublist.slnil|refine List.Sublist.cons_cons _ ?_|refine List.Sublist.cons _ ?_),List.Perm.refl _⟩ (⟨rfl,e⟩))
def q0n (f m:Nat→UInt8)(i:Nat):Nat→UInt8
 |0=>0
 |k+1=>q0n f m i k^^^l0t (f (4*(i/4)+(i%4+k)%4)) (m k)
def e0S (f m:Nat→UInt8)(i:Nat):UInt8:=q0n f m i 4
theorem t0D {i k:Nat}(hi:i<16)(f:Nat→UInt8):(arB 16 f)[0+(4*((i:Int)/4)+((i:Int)%4+(k:Int))%4).toNat*1]? =some (by8 (f (4*(i/4)+(i%4+k)%4))):=
 a0o (by omega) (by
  have:(4*((i:Int)/4)+((i:Int)%4+(k:Int))%4)=((4*(i/4)+(i%4+k)%4:Nat):Int):=by push_cast;rfl
  rw[this,Int.toNat_natCast];omega)
def q0m (f m:Nat→UInt8)(i k q:Nat):UInt8:=if q=i then q0n f m i k else if q<i then e0S f m q else f q
theorem t0C (b:Nat)(f m:Nat→UInt8):Sp Tryz.prog 208 [pt b,.agg (arB 4 m)] [stB b f] (IsM (.val (.tuple #[])) (stB b (e0S f m))):=by
 refine yN Tryz.func208 _ Tryz.ntmps208 (fun w0 R0=> ?_)
 refine zD (zr ?_)
 refine ye ?_
 intro B1
 refine zI (zo (zD (zr ?_)))
 refine zb ?_
 refine vA ?_
 refine zC ?_
 refine zd ?_
 intro B2
 refine AO.store (i:=0) rfl rfl rfl rfl rfl rfl (by rfl) (by rfl) (by rfl) (by exact b0t rfl) (by(dsimp only[List.set,cA,cN,List.take,List.drop];done)) (zI (zo (zD (zr ?_))))
 refine zb (zI (zo (xj ?_)))
 refine xK [(0,_),(3,_),(4,_)] (fun nn E H=> ∃(i:Nat),(i≤16)∧nn=16-i∧E= [(12,.val (.int .i64 (i:Int)))]∧H= [.blk B1 215 4 (arB 4 m),.blk B2 185 16 (arB 16 f),stB b (fun q=>if q<i then e0S f m q else f q)]) _ (⟨0,by omega,rfl,rfl,rfl⟩) ?_
 rintro nn E H ⟨i,hi,rfl,rfl,rfl⟩
 dsimp only[cA,cN]
 refine zD (zr ?_)
 refine zP (zI (zo (zD ?_)))
 refine yk (fun h=> ?_) (fun h=> ?_)<;>(try simp only[vX]at h)
 ·have hi':i<16:=by omega
  refine yX (zo (zD (xj (zD (zr ?_)))))
  refine zb ?_
  refine zc (zI (zo (zD (zr ?_))))
  refine zb ?_
  refine wk ?_
  refine zb ?_
  refine wI ?_
  refine zc ?_
  refine zc (zI (zo (zD (zr ?_))))
  refine zb ?_
  refine zb ?_
  refine vA ?_
  refine xR ?_
  refine yM 2 rfl rfl rfl rfl rfl rfl (by rfl) (by rfl) (by exact Nat.ble_eq_true_of_le (by rw[a0b];omega)) (by exact a0M (k:=i) (by omega) 0 (by omega)) (zI (zo (zD (zr ?_))))
  refine zb (zI (zo (xj ?_)))
  have e0:stB b (fun q=>if q=i then 0 else if q<i then e0S f m q else f q)=stB b (q0m f m i 0):=rfl
  refine zh [(0,_),(3,_),(4,_),(5,_),(6,_),(7,_),(12,_)] (fun nn E H=> ∃(k:Nat),(k≤4)∧nn=4-k∧E= [(23,.val (.int .i64 (k:Int)))]∧H= [.blk B1 215 4 (arB 4 m),.blk B2 185 16 (arB 16 f),stB b (q0m f m i k)]) _ (⟨0,by omega,rfl,rfl,rfl⟩) ?_
  rintro nn E H ⟨k,hk,rfl,rfl,rfl⟩
  dsimp only[cA,cN]
  refine zD (zr ?_)
  refine zP (zI (zo (zD ?_)))
  refine yk (fun h2=> ?_) (fun h2=> ?_)<;>(try simp only[vX]at h2)
  ·have hk':k<4:=by omega
   refine yX (zo (zD (xj (zD (zr ?_)))))
   refine zb ?_
   refine zc (zI (zo ?_))
   refine yw 21 ?_
   simp only[cT,cZ,cD,cO]
   refine zG ?_
   refine zG ?_
   refine vS vP ?_
   refine xl ?_
   refine vS (O.load rfl rfl mM (by exact a0o (k:=i) (by omega) (by omega))) ?_
   refine zG ?_
   refine xt ?_
   refine zG ?_
   refine zG ?_
   refine xk ?_
   refine vS wc ?_
   refine xk ?_
   refine xl ?_
   refine vS (O.load rfl rfl mM (by exact t0D hi' f)) ?_
   refine zG ?_
   refine xl ?_
   refine vS (O.load rfl rfl (by repeat(exact List.Mem.head _)) (by exact a0o (k:=k) (by omega) (by omega))) ?_
   refine vS (xH rfl Tryz.func212 rfl rfl rfl (l0s _ _)) ?_
   refine wm ?_
   refine vS vP ?_
   refine xl ?_
   refine wZ ?_
   simp only[a0f,cN,cA,cP]
   refine yM 2 rfl rfl rfl rfl rfl rfl (by rfl) (by rfl) (by exact Nat.ble_eq_true_of_le (by rw[a0b];omega)) (by exact a0M (k:=i) (by omega) _ (by omega)) (zI (xz (zo (zr ?_))))
   refine zA ?_
   refine zb (zI ?_)
   have e:stB b (fun q=>if q=i then q0m f m i k i^^^l0t (f (4*(i/4)+(i%4+k)%4)) (m k)else q0m f m i k q)=stB b (q0m f m i (k+1)):=h0h fun q _=>by
    unfold q0m
    by_cases h1:q=i
    ·rw[if_pos h1,if_pos h1,if_pos rfl];rfl
    rw[if_neg h1,if_neg h1,if_neg h1]
   refine zq _ _ _ (by omega) (⟨k+1,by omega,rfl,rfl,congrArg (fun x=> [HE.blk B1 215 4 (arB 4 m),HE.blk B2 185 16 (arB 16 f),x]) e⟩)
  obtain rfl:k=4:=by omega
  refine wb ?_
  refine xY ?_
  refine x3 ?_
  refine xx (xz (zo (zr ?_)))
  refine zA ?_
  refine zb (zI ?_)
  have e:stB b (q0m f m i 4)=stB b (fun q=>if q<i+1 then e0S f m q else f q):=h0h fun q _=>by
   unfold q0m
   rcases Nat.lt_trichotomy q i with h1|rfl|h1
   ·rw[if_neg (by omega),if_pos h1,if_pos (by omega)]
   ·rw[if_pos rfl,if_pos (by omega)];rfl
   rw[if_neg (by omega),if_neg (by omega),if_neg (by omega)]
  refine zq _ _ _ (by omega) (⟨i+1,by omega,rfl,rfl,congrArg (fun x=> [HE.blk B1 215 4 (arB 4 m),HE.blk B2 185 16 (arB 16 f),x]) e⟩)
 obtain rfl:i=16:=by omega
 refine wb ?_
 refine xY ?_
 refine x3 ?_
 refine xx ?_
 have e: [stB b (fun q=>if q<16 then e0S f m q else f q)]= [stB b (e0S f m)]:=m0o fun q hq=>if_pos hq
 refine AQ.retN (AQ.ret0 rfl ⟨_,by repeat(first|exact List.Sublist.slnil|refine List.Sublist.cons_cons _ ?_|refine List.Sublist.cons _ ?_),List.Perm.refl _⟩ (⟨rfl,e⟩))
def PW:List UInt8:= [1,3,5,15,17,51,85,255,26,46,114,150,161,248,19,53,95,225,56,72,216,115,149,164,247,2,6,10,30,34,102,170,229,52,92,228,55,89,235,38,106,190,217,112,144,171,230,49,83,245,4,12,20,60,68,204,79,209,104,184,211,110,178,205,76,212,103,169,224,59,77,215,98,166,241,8,24,40,120,136,131,158,185,208,107,189,220,127,129,152,179,206,73,219,118,154,181,196,87,249,16,48,80,240,11,29,39,105,187,214,97,163,254,25,43,125,135,146,173,236,47,113,147,174,233,32,96,160,251,22,58,78,210,109,183,194,93,231,50,86,250,21,63,65,195,94,226,61,71,201,64,192,91,237,44,116,156,191,218,117,159,186,213,100,172,239,42,126,130,157,188,223,122,142,137,128,155,182,193,88,232,35,101,175,234,37,111,177,200,67,197,84,252,31,33,99,165,244,7,9,27,45,119,153,176,203,70,202,69,207,74,222,121,139,134,145,168,227,62,66,198,81,243,14,18,54,90,238,41,123,141,140,143,138,133,148,167,242,13,23,57,75,221,124,132,151,162,253,28,36,108,180,199,82,246,1]
def SB:List UInt8:= [99,124,119,123,242,107,111,197,48,1,103,43,254,215,171,118,202,130,201,125,250,89,71,240,173,212,162,175,156,164,114,192,183,253,147,38,54,63,247,204,52,165,229,241,113,216,49,21,4,199,35,195,24,150,5,154,7,18,128,226,235,39,178,117,9,131,44,26,27,110,90,160,82,59,214,179,41,227,47,132,83,209,0,237,32,252,177,91,106,203,190,57,74,76,88,207,208,239,170,251,67,77,51,133,69,249,2,127,80,60,159,168,81,163,64,143,146,157,56,245,188,182,218,33,16,255,243,210,205,12,19,236,95,151,68,23,196,167,126,61,100,93,25,115,96,129,79,220,34,42,144,136,70,238,184,20,222,94,11,219,224,50,58,10,73,6,36,92,194,211,172,98,145,149,228,121,231,200,55,109,141,213,78,169,108,86,244,234,101,122,174,8,186,120,37,46,28,166,180,198,232,221,116,31,75,189,139,138,112,62,181,102,72,3,246,14,97,53,87,185,134,193,29,158,225,248,152,17,105,217,142,148,155,30,135,233,206,85,40,223,140,161,137,13,191,230,66,104,65,153,45,15,176,84,187,22]
def IV:List UInt8:= [82,9,106,213,48,54,165,56,191,64,163,158,129,243,215,251,124,227,57,130,155,47,255,135,52,142,67,68,196,222,233,203,84,123,148,50,166,194,35,61,238,76,149,11,66,250,195,78,8,46,161,102,40,217,36,178,118,91,162,73,109,139,209,37,114,248,246,100,134,104,152,22,212,164,92,204,93,101,182,146,108,112,72,80,253,237,185,218,94,21,70,87,167,141,157,132,144,216,171,0,140,188,211,10,247,228,88,5,184,179,69,6,208,44,30,143,202,63,15,2,193,175,189,3,1,19,138,107,58,145,17,65,79,103,220,234,151,242,207,206,240,180,230,115,150,172,116,34,231,173,53,133,226,249,55,232,28,117,223,110,71,241,26,113,29,41,197,137,111,183,98,14,170,24,190,27,252,86,62,75,198,210,121,32,154,219,192,254,120,205,90,244,31,221,168,51,136,7,199,49,177,18,16,89,39,128,236,95,96,81,127,169,25,181,74,13,45,229,122,159,147,201,156,239,160,224,59,77,174,42,245,176,200,235,187,60,131,83,153,97,23,43,4,126,186,119,214,38,225,105,20,99,85,33,12,125]
def LG:List Nat:= [255,0,25,1,50,2,26,198,75,199,27,104,51,238,223,3,100,4,224,14,52,141,129,239,76,113,8,200,248,105,28,193,125,194,29,181,249,185,39,106,77,228,166,114,154,201,9,120,101,47,138,5,33,15,225,36,18,240,130,69,53,147,218,142,150,143,219,189,54,208,206,148,19,92,210,241,64,70,131,56,102,221,253,48,191,6,139,98,179,37,226,152,34,136,145,16,126,110,72,195,163,182,30,66,58,107,40,84,250,133,61,186,43,121,10,21,155,159,94,202,78,212,172,229,243,115,167,87,175,88,168,80,244,234,214,116,79,174,233,213,231,230,173,232,44,215,117,122,235,22,11,245,89,203,95,176,156,169,81,160,127,12,246,111,23,196,73,236,216,67,31,45,164,118,123,183,204,187,62,90,251,96,177,134,59,82,161,108,170,85,41,157,151,178,135,144,97,190,220,252,188,149,207,205,55,63,91,209,83,57,132,60,65,162,109,71,20,42,158,93,86,242,211,171,68,17,146,217,35,32,46,137,180,124,184,38,119,153,227,165,103,74,237,222,197,49,254,24,13,99,140,128,192,247,112,7]
def pw (i:Nat):UInt8:=PW.getD i 0
def sb (v:UInt8):UInt8:=SB.getD v.toNat 0
def iv (v:UInt8):UInt8:=IV.getD v.toNat 0
def lg (v:UInt8):Nat:=LG.getD v.toNat 0
def tA (i:Nat):UInt8:=if i<255 then pw i else 0
def tB (i:Nat):UInt8:=if i<255 then pw ((255-i)%255)else 0
def tC (i k:Nat):UInt8:=match k with
 |0=>tB i^^^99
 |k+1=>tC i k^^^u0r (tB i) (k+1)
theorem r0v: ∀i,i<255→pw (i+1)=pw i^^^dbl (pw i):=by decide +kernel
theorem m0l: ∀i,i<256→lg (tA i)=i∧sb (tA i)=tC i 4∧iv (tC i 4)=tA i:=by decide +kernel
theorem s0W: ∀n,n<256→tA (lg (UInt8.ofNat n))=UInt8.ofNat n∧lg (UInt8.ofNat n)<256:=by decide +kernel
theorem v0e: ∀n,n<256→iv (sb (UInt8.ofNat n))=UInt8.ofNat n∧sb (iv (UInt8.ofNat n))=UInt8.ofNat n:=by decide +kernel
instance :TyN Tryz.prog 183 512 512 (.agg ⟨List.replicate 512 (.int .u8 0)⟩):=⟨Tryz.t183,Tryz.type183,rfl,rfl,by kernel_rfl⟩
theorem f0j (n:Nat):List.map AV.val (List.replicate n (.int .u8 0))=arB n (fun _=>0):=by
 rw[c0K,List.map_replicate]
 apply List.ext_getElem?
 intro q
 by_cases h:q<n<;>simp[h]
theorem c0D {q:Nat}(hq:q<256){v:UInt8}:UInt8.ofNat q=v↔q=v.toNat:=by
 constructor
 ·rintro rfl;rw[UInt8.toNat_ofNat_of_lt' (by simpa[UInt8.size]using hq)]
 rintro rfl;exact UInt8.ofNat_toNat
theorem u0I (v:UInt8):tA (lg v)=v:=by have:=(s0W v.toNat v.toNat_lt).1;rwa [UInt8.ofNat_toNat]at this
theorem r0U (v:UInt8):lg v<256:=by have:=(s0W v.toNat v.toNat_lt).2;rwa [UInt8.ofNat_toNat]at this
theorem u0N (v:UInt8):sb (iv v)=v:=by have:=(v0e v.toNat v.toNat_lt).2;rwa [UInt8.ofNat_toNat]at this
theorem k0K {i:Nat}(hi:i<256){v:UInt8}:lg v=i↔v=tA i:=by
 constructor
 ·intro h;rw[←h];exact(u0I v).symm
 rintro rfl;exact(m0l i hi).1
def tT (i q:Nat):UInt8:=if q<256 then(if lg (UInt8.ofNat q)<i then sb (UInt8.ofNat q)else 0)else(if lg (iv (UInt8.ofNat (q-256)))<i then iv (UInt8.ofNat (q-256))else 0)
def TB (q:Nat):UInt8:=if q<256 then sb (UInt8.ofNat q)else iv (UInt8.ofNat (q-256))
theorem q0W {i:Nat}(hi:i<256)(q:Nat)(hq:q<512):(if q=256+(tC i 4).toNat then tA i else if q=(tA i).toNat then tC i 4 else tT i q)=tT (i+1) q:=by
 obtain⟨h1,h2,h3⟩:=m0l i hi
 have ha:=(tA i).toNat_lt
 unfold tT
 by_cases hq2:q<256
 ·rw[if_neg (by omega),if_pos hq2,if_pos hq2]
  by_cases e:q=(tA i).toNat
  ·rw[if_pos e]
   have:UInt8.ofNat q=tA i:=(c0D hq2).2 e
   rw[this,h1,if_pos (by omega),h2]
  rw[if_neg e]
  have:lg (UInt8.ofNat q)≠i:=fun hh=>e ((c0D hq2).1 ((k0K hi).1 hh))
  by_cases hl:lg (UInt8.ofNat q)<i
  ·rw[if_pos hl,if_pos (by omega)]
  rw[if_neg hl,if_neg (by omega)]
 rw[if_neg hq2,if_neg hq2]
 by_cases e:q=256+(tC i 4).toNat
 ·rw[if_pos e]
  have:UInt8.ofNat (q-256)=tC i 4:=(c0D (by omega)).2 (by omega)
  rw[this,h3,h1,if_pos (by omega)]
 rw[if_neg e,if_neg (by omega)]
 have:lg (iv (UInt8.ofNat (q-256)))≠i:=fun hh=>e (by
  have h4:=(k0K hi).1 hh
  have h5:=u0N (UInt8.ofNat (q-256))
  rw[h4,h2]at h5
  have:=(c0D (q:=q-256) (by omega)).1 h5.symm
  omega)
 by_cases hl:lg (iv (UInt8.ofNat (q-256)))<i
 ·rw[if_pos hl,if_pos (by omega)]
 rw[if_neg hl,if_neg (by omega)]
theorem s0X (q:Nat):tT 256 q=TB q:=by
 unfold tT TB
 rw[if_pos (r0U _),if_pos (r0U _)]
theorem u0d:j0Z (arB 512 TB) 0 sb:=fun v=>by
 have:=v.toNat_lt
 rw[a0o (k:=v.toNat) (by omega) (by omega),TB,if_pos (by omega),UInt8.ofNat_toNat]
theorem s0L (a:UInt8):Go.bits .xor .u8 (a.toNat:Int) 99=((a^^^99).toNat:Int):=c0L (p:=fun a=>Go.bits .xor .u8 (a.toNat:Int) 99=((a^^^99).toNat:Int)) (by decide +kernel) a
theorem q0Y:Sp Tryz.prog 177 [] [] (Is (.agg (arB 512 TB))):=by
 refine yN Tryz.func177 _ Tryz.ntmps177 (fun w0 R0=> ?_)
 refine zD (zr ?_)
 refine wu ?_
 intro B1
 refine zI (zo (zD (zr ?_)))
 refine wu ?_
 intro B2
 refine zI (zo (zD (zr ?_)))
 refine zc (zI (zo (zD (zD (zr ?_)))))
 refine zb (zI (zo (xj ?_)))
 have e0:arB 256 (fun _=>0)=arB 256 (fun q=>if q<0 then pw q else 0):=a0c fun q _=>(if_neg (by omega)).symm
 rw[e0]
 refine zh [(0,_),(1,_)] (fun nn E H=> ∃(i:Nat),(i≤255)∧nn=255-i∧E= [(2,by8 (pw i)),(10,.val (.int .i64 (i:Int)))]∧H= [.blk B2 181 256 (arB 256 (fun q=>if q<i then pw q else 0)),.blk B1 183 512 (arB 512 fun _=>0)]) _ (⟨0,by omega,rfl,rfl,rfl⟩) ?_
 rintro nn E H ⟨i,hi,rfl,rfl,rfl⟩
 dsimp only[cA,cN]
 refine zD (zr ?_)
 refine zP (zI (zo (zD ?_)))
 refine yk (fun h=> ?_) (fun h=> ?_)<;>(try simp only[vX]at h)
 ·refine yX (zo (zD (xj (zD (zr ?_)))))
  refine zb ?_
  refine zc (zI (zo (zD (zr ?_))))
  refine zb ?_
  refine zb ?_
  refine xR ?_
  refine yM 0 rfl rfl rfl rfl rfl rfl (by rfl) (by rfl) (by exact Nat.ble_eq_true_of_le (by rw[a0b];omega)) (by exact a0M (k:=i) (by omega) _ (by omega)) (zI (zo (zr ?_)))
  refine zb ?_
  refine zb ?_
  refine vT (xH rfl Tryz.func195 rfl rfl rfl (k0S _)) ?_
  refine vF ?_
  refine zc (zI (xz (zo (zr ?_))))
  refine zA ?_
  refine zb (zI ?_)
  have e1:arB 256 (fun q=>if q=i then pw i else if q<i then pw q else 0)=arB 256 (fun q=>if q<i+1 then pw q else 0):=a0c fun q _=>by
   rcases Nat.lt_trichotomy q i with h1|rfl|h1
   ·rw[if_neg (by omega),if_pos h1,if_pos (by omega)]
   ·rw[if_pos rfl,if_pos (by omega)]
   rw[if_neg (by omega),if_neg (by omega),if_neg (by omega)]
  rw[←r0v i (by omega),e1]
  refine zq _ _ _ (by omega) (⟨i+1,by omega,rfl,rfl,rfl⟩)
 obtain rfl:i=255:=by omega
 refine wb ?_
 refine xY ?_
 refine x3 ?_
 refine xx (zo (zD (zr ?_)))
 refine wu ?_
 intro B3
 refine zI (zo (zD (zD (zr ?_))))
 refine zb (zI (zo (xj ?_)))
 obtain⟨PB,hPB⟩: ∃PB,PB=arB 256 (fun q=>if q<255 then pw q else 0):=⟨_,rfl⟩
 have hpg: ∀k,k<255→PB[k]? =some (by8 (pw k)):=fun k hk=>by rw[hPB,a0o (k:=k) (by omega) rfl,if_pos hk]
 rw[←hPB]
 have e2:arB 512 (fun _=>0)=arB 512 (tT 0):=a0c fun q _=>by unfold tT;simp
 rw[e2]
 refine zh [(0,_),(1,_),(4,_)] (fun nn E H=> ∃(i:Nat),(i≤256)∧nn=256-i∧E= [(21,.val (.int .i64 (i:Int)))]∧H= [.blk B3 183 512 (arB 512 (tT i)),.blk B2 181 256 PB,.blk B1 183 512 (arB 512 (tT 0))]) _ (⟨0,by omega,rfl,rfl,rfl⟩) ?_
 rintro nn E H ⟨i,hi2,rfl,rfl,rfl⟩
 dsimp only[cA,cN]
 refine zD (zr ?_)
 refine zP (zI (zo (zD ?_)))
 refine yk (fun h2=> ?_) (fun h2=> ?_)<;>(try simp only[vX]at h2)
 ·have hAl:=(tA i).toNat_lt
  have hCl:=(tC i 4).toNat_lt
  refine yX (zo (zD (xj (zD (zr ?_)))))
  refine zb ?_
  refine zc (zI (zo (zD (zr ?_))))
  refine zc ?_
  refine zc (zI (zo (zD (zD (zr ?_)))))
  refine zb ?_
  refine zP (zI (zo ?_))
  refine xL True [(0,_),(1,_),(4,_),(21,_)] [(6,by8 (tA i)),(7,by8 (tB i))] [.blk B3 183 512 (arB 512 (tT i)),.blk B2 181 256 PB,.blk B1 183 512 (arB 512 (tT 0))] (fun h24=> ?_) (fun h24=> ?_) (fun hj=> ?_)<;>try(try simp only[vX]at h24)
  ·have hg1:PB[0+(i:Int).toNat*1]? =some (by8 (tA i)):=by
    rw[show 0+(i:Int).toNat*1=i by omega,hpg i (by omega),tA,if_pos (by omega)]
   have hg2:PB[0+((255-(i:Int))%255).toNat*1]? =some (by8 (tB i)):=by
    rw[show 0+((255-(i:Int))%255).toNat*1=(255-i)%255 by omega,hpg _ (by omega),tB,if_pos (by omega)]
   refine yw 10 ?_
   simp only[cT,cZ,cD,cO]
   refine zG ?_
   refine xl ?_
   refine vS (O.load rfl rfl mM (by assumption)) ?_
   refine zG ?_
   refine xT ?_
   refine vS wc ?_
   refine xl ?_
   refine vS (O.load rfl rfl mM (by assumption)) ?_
   refine vB ?_
   refine vB ?_
   refine wZ ?_
   simp only[a0f,cN,cA,cP]
   refine zI ?_
   refine vb
  ·have hA:a0n (.int .u8 0)=by8 (tA i):=by rw[tA,if_neg (by omega)];rfl
   have hB:a0n (.int .u8 0)=by8 (tB i):=by rw[tB,if_neg (by omega)];rfl
   refine yX ?_
   refine AQ.g ?_
   refine G.re 6 (by8 (tA i)) (congrArg some hA) ?_
   refine AQ.u ?_
   refine AQ.g ?_
   refine G.re 7 (by8 (tB i)) (congrArg some hB) ?_
   refine AQ.u ?_
   refine yj
  dsimp only[cA,cN]
  refine zo (zD (zr ?_))
  refine zb ?_
  refine vT (O.xor_ rfl rfl rfl (s0L _)) ?_
  refine zc (zI (zo (zD (zD (zr ?_)))))
  refine zc (zI (zo (xj ?_)))
  refine zh [(0,_),(1,_),(4,_),(6,_),(7,_),(21,_)] (fun nn E H=> ∃(k:Nat),(k≤4)∧nn=4-k∧E= [(8,by8 (tC i k)),(9,.val (.int .i64 ((k+1:Nat):Int)))]∧H= [.blk B3 183 512 (arB 512 (tT i)),.blk B2 181 256 PB,.blk B1 183 512 (arB 512 (tT 0))]) _ (⟨0,by omega,rfl,rfl,rfl⟩) ?_
  rintro nn E H ⟨k,hk,rfl,rfl,rfl⟩
  dsimp only[cA,cN]
  refine zD (zD (zr ?_))
  refine zb ?_
  refine vN (zI (zo ?_))
  refine yk (fun h4=> ?_) (fun h4=> ?_)<;>(try simp only[vX]at h4)
  ·refine yX (zo (zD (xj (zr ?_))))
   refine zb ?_
   refine zb ?_
   refine zb ?_
   refine vT (xH rfl Tryz.func196 rfl rfl rfl (r0i _ (k+1) (by omega))) ?_
   refine vF ?_
   refine zc (zI (xz (zo (zr ?_))))
   refine zb ?_
   refine zA ?_
   refine zc (zI ?_)
   refine zq _ _ _ (by omega) (⟨k+1,by omega,rfl,rfl,rfl⟩)
  obtain rfl:k=4:=by omega
  refine wb ?_
  refine xY ?_
  refine x3 ?_
  refine xx (zo (zr ?_))
  refine zb ?_
  refine zb ?_
  refine zb ?_
  refine zb ?_
  refine zt ?_
  refine xR ?_
  refine yM 0 rfl rfl rfl rfl rfl rfl (by rfl) (by rfl) (by exact Nat.ble_eq_true_of_le (by rw[a0b];omega)) (by exact a0M (k:=(tA i).toNat) (by omega) _ (by omega)) ?_
  refine zt ?_
  refine xR ?_
  refine yM 0 rfl rfl rfl rfl rfl rfl (by rfl) (by rfl) (by exact Nat.ble_eq_true_of_le (by rw[a0b];omega)) (by exact a0M (k:=256+(tC i 4).toNat) (by omega) _ (by omega)) (zI (xz (zo (zr ?_))))
  refine zA ?_
  refine zb (zI ?_)
  have e4:arB 512 (fun q=>if q=256+(tC i 4).toNat then tA i else if q=(tA i).toNat then tC i 4 else tT i q)=arB 512 (tT (i+1)):=a0c fun q hq=>q0W (by omega) q hq
  rw[e4]
  refine zq _ _ _ (by omega) (⟨i+1,by omega,rfl,rfl,rfl⟩)
 obtain rfl:i=256:=by omega
 have e5:arB 512 (tT 256)=arB 512 TB:=a0c fun q _=>s0X q
 rw[e5]
 refine wb ?_
 refine xY ?_
 refine x3 ?_
 refine xx (zo (zD (zr ?_)))
 refine xA ?_
 refine ym 2 (zI (zo (xc ?_)))
 refine AQ.retCell (ys:=arB 512 TB) rfl rfl mM (List.take_of_length_le (Nat.le_of_eq (a0b _ _))) (a0b _ _) nS ⟨rfl,rfl⟩
theorem t0l: ∀i,i<255→l0t (pw i) 3=pw (i+1):=by decide +kernel
theorem v0Z: ∀i,i<255→((((tB i^^^r0g (tB i) 1)^^^r0g (tB i) 2)^^^r0g (tB i) 3)^^^r0g (tB i) 4)^^^99=sb (tA i):=by decide +kernel
def rT (i q:Nat):UInt8:=if q=0 then 99 else if lg (UInt8.ofNat q)<i then sb (UInt8.ofNat q)else 0
def RB (q:Nat):UInt8:=sb (UInt8.ofNat q)
theorem u0H {i:Nat}(hi:i<255):(tA i).toNat≠0:=fun h=>by
 have h1:tA i=tA 255:=by rw[show tA 255=0 from rfl];exact UInt8.toNat_inj.1 h
 have h2:=(m0l i (by omega)).1
 rw[h1,(m0l 255 (by omega)).1]at h2
 omega
theorem r0t {i:Nat}(hi:i<255)(q:Nat)(hq:q<256):(if q=(tA i).toNat then sb (tA i)else rT i q)=rT (i+1) q:=by
 have hne:=u0H hi
 have h1:=(m0l i (by omega)).1
 unfold rT
 by_cases e:q=(tA i).toNat
 ·have:UInt8.ofNat q=tA i:=(c0D hq).2 e
  rw[if_pos e,if_neg (by omega),this,h1,if_pos (by omega)]
 rw[if_neg e]
 by_cases h0:q=0
 ·rw[if_pos h0,if_pos h0]
 have:lg (UInt8.ofNat q)≠i:=fun hh=>e ((c0D hq).1 ((k0K (by omega)).1 hh))
 rw[if_neg h0,if_neg h0]
 by_cases hl:lg (UInt8.ofNat q)<i
 ·rw[if_pos hl,if_pos (by omega)]
 rw[if_neg hl,if_neg (by omega)]
theorem t0k (q:Nat)(hq:q<256):rT 255 q=RB q:=by
 unfold rT RB
 by_cases h0:q=0
 ·rw[if_pos h0,h0];rfl
 rw[if_neg h0,if_pos]
 have h1:=r0U (UInt8.ofNat q)
 have h2:lg (UInt8.ofNat q)≠255:=fun hh=>by
  have:=(c0D hq).1 ((k0K (by omega)).1 hh)
  exact h0 (this.trans rfl)
 omega
theorem r0s (q:Nat):(if q=0 then 99 else 0)=rT 0 q:=by unfold rT;simp
theorem k0n:Sp Tryz.prog 199 [] [] (Is (.agg (arB 256 RB))):=by
 refine yN Tryz.func199 _ Tryz.ntmps199 (fun w0 R0=> ?_)
 refine zD (zr ?_)
 refine wu ?_
 intro B1
 refine zI (zo (zD (zr ?_)))
 refine wu ?_
 intro B2
 refine zI (zo (zD (zr ?_)))
 refine zc (zI (zo (zD (zD (zr ?_)))))
 refine zb (zI (zo (xj ?_)))
 have e0:arB 255 (fun _=>0)=arB 255 (fun q=>if q<0 then pw q else 0):=a0c fun q _=>(if_neg (by omega)).symm
 rw[e0]
 refine zh [(0,_),(1,_)] (fun nn E H=> ∃(i:Nat),(i≤255)∧nn=255-i∧E= [(2,by8 (pw i)),(7,.val (.int .i64 (i:Int)))]∧H= [.blk B2 234 255 (arB 255 (fun q=>if q<i then pw q else 0)),.blk B1 181 256 (arB 256 fun _=>0)]) _ (⟨0,by omega,rfl,rfl,rfl⟩) ?_
 rintro nn E H ⟨i,hi,rfl,rfl,rfl⟩
 dsimp only[cA,cN]
 refine zD (zr ?_)
 refine zP (zI (zo (zD ?_)))
 refine yk (fun h=> ?_) (fun h=> ?_)<;>(try simp only[vX]at h)
 ·refine yX (zo (zD (xj (zD (zr ?_)))))
  refine zb ?_
  refine zc (zI (zo (zD (zr ?_))))
  refine zb ?_
  refine zb ?_
  refine xR ?_
  refine yM 0 rfl rfl rfl rfl rfl rfl (by rfl) (by rfl) (by exact Nat.ble_eq_true_of_le (by rw[a0b];omega)) (by exact a0M (k:=i) (by omega) _ (by omega)) (zI (zo (zr ?_)))
  refine zb ?_
  refine vT (xH rfl Tryz.func209 rfl rfl rfl (n0r _ 3)) ?_
  refine zc (zI (xz (zo (zr ?_))))
  refine zA ?_
  refine zb (zI ?_)
  have e1:arB 255 (fun q=>if q=i then pw i else if q<i then pw q else 0)=arB 255 (fun q=>if q<i+1 then pw q else 0):=a0c fun q _=>by
   rcases Nat.lt_trichotomy q i with h1|rfl|h1
   ·rw[if_neg (by omega),if_pos h1,if_pos (by omega)]
   ·rw[if_pos rfl,if_pos (by omega)]
   rw[if_neg (by omega),if_neg (by omega),if_neg (by omega)]
  rw[t0l i (by omega),e1]
  refine zq _ _ _ (by omega) (⟨i+1,by omega,rfl,rfl,rfl⟩)
 obtain rfl:i=255:=by omega
 obtain⟨PB,hPB⟩: ∃PB,PB=arB 255 (fun q=>if q<255 then pw q else 0):=⟨_,rfl⟩
 have hpg: ∀k,k<255→PB[k]? =some (by8 (pw k)):=fun k hk=>by rw[hPB,a0o (k:=k) (by omega) rfl,if_pos hk]
 rw[←hPB]
 refine wb ?_
 refine xY ?_
 refine x3 ?_
 refine xx (zo (zD (zr ?_)))
 refine wu ?_
 intro B3
 refine zI (zo (zD (zr ?_)))
 refine xR ?_
 refine yM 0 rfl rfl rfl rfl rfl rfl (by rfl) (by rfl) (by exact Nat.ble_eq_true_of_le (by rw[a0b];omega)) (by exact a0M (k:=0) (by omega) 99 (by omega)) (zI (zo (zD (zD (zr ?_)))))
 refine zb (zI (zo (xj ?_)))
 have e2:arB 256 (fun q=>if q=0 then 99 else 0)=arB 256 (rT 0):=a0c fun q _=>r0s q
 rw[e2]
 refine zh [(0,_),(1,_),(4,_)] (fun nn E H=> ∃(i:Nat),(i≤255)∧nn=255-i∧E= [(17,.val (.int .i64 (i:Int)))]∧H= [.blk B3 181 256 (arB 256 (rT i)),.blk B2 234 255 PB,.blk B1 181 256 (arB 256 fun _=>0)]) _ (⟨0,by omega,rfl,rfl,rfl⟩) ?_
 rintro nn E H ⟨i,hi2,rfl,rfl,rfl⟩
 dsimp only[cA,cN]
 refine zD (zr ?_)
 refine zP (zI (zo (zD ?_)))
 refine yk (fun h2=> ?_) (fun h2=> ?_)<;>(try simp only[vX]at h2)
 ·have hAl:=(tA i).toNat_lt
  have hg1:PB[0+(i:Int).toNat*1]? =some (by8 (tA i)):=by
   rw[show 0+(i:Int).toNat*1=i by omega,hpg i (by omega),tA,if_pos (by omega)]
  have hg2:PB[0+((255-(i:Int))%255).toNat*1]? =some (by8 (tB i)):=by
   rw[show 0+((255-(i:Int))%255).toNat*1=(255-i)%255 by omega,hpg _ (by omega),tB,if_pos (by omega)]
  refine yX (zo (zD (xj (zD (zr ?_)))))
  refine zb ?_
  refine zc (zI (zo (zD (zr ?_))))
  refine zb ?_
  refine yK ?_
  refine wk ?_
  refine xR ?_
  refine vT (O.load rfl rfl mM (by assumption)) ?_
  refine zc (zI (zo ?_))
  refine yw 18 ?_
  simp only[cT,cZ,cD,cO]
  refine zG ?_
  refine xl ?_
  refine vS (O.load rfl rfl mM (by assumption)) ?_
  refine zG ?_
  refine zG ?_
  refine vS (xH rfl Tryz.func210 rfl rfl rfl (k0s _ 1 (by omega))) ?_
  refine wm ?_
  refine zG ?_
  refine vS (xH rfl Tryz.func210 rfl rfl rfl (k0s _ 2 (by omega))) ?_
  refine wm ?_
  refine zG ?_
  refine vS (xH rfl Tryz.func210 rfl rfl rfl (k0s _ 3 (by omega))) ?_
  refine wm ?_
  refine zG ?_
  refine vS (xH rfl Tryz.func210 rfl rfl rfl (k0s _ 4 (by omega))) ?_
  refine wm ?_
  refine vS (O.xor_ rfl rfl rfl (s0L _)) ?_
  refine xl ?_
  refine wZ ?_
  simp only[a0f,cN,cA,cP]
  refine yM 0 rfl rfl rfl rfl rfl rfl (by rfl) (by rfl) (by exact Nat.ble_eq_true_of_le (by rw[a0b];omega)) (by exact a0M (k:=(tA i).toNat) (by omega) _ (by omega)) (zI (xz (zo (zr ?_))))
  refine zA ?_
  refine zb (zI ?_)
  rw[v0Z i (by omega)]
  have e4:arB 256 (fun q=>if q=(tA i).toNat then sb (tA i)else rT i q)=arB 256 (rT (i+1)):=a0c fun q hq=>r0t (by omega) q hq
  rw[e4]
  refine zq _ _ _ (by omega) (⟨i+1,by omega,rfl,rfl,rfl⟩)
 obtain rfl:i=255:=by omega
 have e5:arB 256 (rT 255)=arB 256 RB:=a0c fun q hq=>t0k q hq
 rw[e5]
 refine wb ?_
 refine xY ?_
 refine x3 ?_
 refine xx (zo (zD (zr ?_)))
 refine xA ?_
 refine ym 2 (zI (zo (xc ?_)))
 refine AQ.retCell (ys:=arB 256 RB) rfl rfl mM (List.take_of_length_le (Nat.le_of_eq (a0b _ _))) (a0b _ _) nS ⟨rfl,rfl⟩
def rcF:Nat→UInt8
 |0=>1
 |k+1=>dbl (rcF k)
def wS (key:Nat→UInt8)(q:Nat):UInt8:=
 if h:q<16 then key q else
  (if q%16<4 then sb (wS key (q-q%16-4+(q%16+1)%4))^^^ (if q%16=0 then rcF (q/16-1)else 0)else wS key (q-4))^^^wS key (q-16)
termination_by q
decreasing_by all_goals omega
theorem m0f {key:Nat→UInt8}{q:Nat}(h:q<16):wS key q=key q:=by rw[wS,dif_pos h]
theorem s0Q {key:Nat→UInt8}{q:Nat}(h: ¬q<16):wS key q=(if q%16<4 then sb (wS key (q-q%16-4+(q%16+1)%4))^^^ (if q%16=0 then rcF (q/16-1)else 0)else wS key (q-4))^^^wS key (q-16):=by
 rw[wS,dif_neg h]
def zS (key:Nat→UInt8)(i m:Nat):UInt8:=if m<4 then sb (wS key (16*i-4+(m+1)%4))^^^ (if m=0 then rcF (i-1)else 0)else wS key (16*i+m-4)
theorem u0E (key:Nat→UInt8){i m:Nat}(hi:1≤i)(hm:m<16):wS key (16*i+m)=zS key i m^^^wS key (16*(i-1)+m):=by
 rw[wS,dif_neg (by omega)]
 have h1:(16*i+m)%16=m:=by omega
 have h2:(16*i+m)/16=i:=by omega
 rw[h1,h2,show 16*i+m-16=16*(i-1)+m by omega,show 16*i+m-m-4=16*i-4 by omega,zS]
def cut (key:Nat→UInt8)(n q:Nat):UInt8:=if q<n then wS key q else 0
theorem n0U {key:Nat→UInt8}{n k j:Nat}(h:k<n)(h2:n≤176)(hj:j=k):(arB 176 (cut key n))[j]? =some (by8 (wS key k)):=by
 rw[a0o (k:=k) (by omega) hj,cut,if_pos h]
def tz (key:Nat→UInt8)(i k j:Nat):UInt8:=zS key i (k+(j+4-k%4)%4)
theorem u0F (key:Nat→UInt8)(i k:Nat):tz key i k (k%4)=zS key i k:=by
 unfold tz;congr 1;omega
theorem s0V {key:Nat→UInt8}{i k j:Nat}(hj:j=k%4):(arB 4 (tz key i k))[j]? =some (by8 (zS key i k)):=by
 rw[a0o (k:=k%4) (by omega) hj,u0F]
theorem q0T {key:Nat→UInt8}{i k:Nat}(q:Nat)(hq:q<4):(if q=k%4 then wS key (16*i+k)else tz key i k q)=tz key i (k+1) q:=by
 unfold tz
 by_cases h:q=k%4
 ·rw[if_pos h,zS,if_neg (by omega)]
  congr 1;omega
 rw[if_neg h];congr 1;omega
theorem q0K (a:UInt8):a^^^0=a:=UInt8.xor_zero
theorem s0l (key:Nat→UInt8):a0d (arB 176 fun _=>0) 0 ((arB 16 key).take 16)=arB 176 (cut key 16):=by
 rw[List.take_of_length_le (Nat.le_of_eq (a0b _ _)),d0p (by omega)]
 refine a0c fun q hq=> ?_
 unfold cut
 by_cases h:q<16
 ·rw[if_pos (by omega),if_pos h,m0f h];rfl
 rw[if_neg (by omega),if_neg h]
theorem o0D (key:Nat→UInt8)(xs:List AV)(hx:j0Z xs 0 sb):Sp Tryz.prog 178 [.rp xs 0,.ro false 16 (arB 16 key)] [] (Is (.agg (arB 176 (wS key)))):=by
 refine yN Tryz.func178 _ Tryz.ntmps178 (fun w0 R0=> ?_)
 refine zD (zr ?_)
 refine wu ?_
 intro B1
 refine zI (zo (zD (zr ?_)))
 refine xR ?_
 refine vT (O.sliceArrK (p:=0) rfl rfl rfl rfl (by rfl) (by rfl) ⟨by omega,by omega⟩ (by omega)) ?_
 refine zb ?_
 refine AO.copyIn (i:=0) rfl rfl rfl rfl (by exact a0b _ _) (by exact c0H _ _) rfl (by rw[a0b];omega) (by exact s0l key) rfl rfl (fun q h=>by cases h;exact lB rfl) ?_
 rintro _ rfl
 dsimp only[List.set]
 refine zI (zo (zD (zr ?_)))
 refine zc (zI (zo (zD (zD (zr ?_)))))
 refine zc (zI (zo (xj ?_)))
 refine zh [(0,_),(4,_)] (fun nn E H=> ∃(i:Nat),(1≤i∧i≤11)∧nn=11-i∧E= [(5,by8 (rcF (i-1))),(6,.val (.int .i64 (i:Int)))]∧H= [.blk B1 186 176 (arB 176 (cut key (16*i)))]) _ (⟨1,by omega,rfl,rfl,rfl⟩) ?_
 rintro nn E H ⟨i,hi,rfl,rfl,rfl⟩
 dsimp only[cA,cN]
 refine zD (zD (zr ?_))
 refine zb ?_
 refine zP (zI (zo ?_))
 refine yk (fun h=> ?_) (fun h=> ?_)<;>(try simp only[vX]at h)
 ·have hi':i<11:=by omega
  have hlast: ∀j:Nat,j<4→(arB 176 (cut key (16*i)))[0+((i:Int)-1).toNat*16+12*1+j*1]? =some (by8 (wS key (16*i-4+j))):=fun j hj=>n0U (by omega) (by omega) (by omega)
  have hl0:=hlast 0 (by omega)
  have hl1:=hlast 1 (by omega)
  have hl2:=hlast 2 (by omega)
  have hl3:=hlast 3 (by omega)
  refine yX (zo (zD (xj (zD (zr ?_)))))
  refine zb ?_
  refine yK ?_
  refine xR ?_
  refine vT (O.sliceArrK (p:=12) rfl rfl rfl rfl (by rfl) (by rfl) ⟨by omega,by omega⟩ (by omega)) ?_
  refine zc (zI (zo (zD ?_)))
  refine yw 36 ?_
  simp only[cT,cZ,cD,cO]
  refine zG ?_
  refine zG ?_
  refine wY ?_
  refine vS (O.load rfl rfl (by repeat(exact List.Mem.head _)) (by exact hl1)) ?_
  refine vS (O.nilCheckR rfl rfl) ?_
  refine vS vR ?_
  refine vS (O.idxLR rfl rfl rfl (by exact m0j _)) ?_
  refine vS (O.loadR rfl rfl (by exact e0F hx _)) ?_
  refine zG ?_
  refine wm ?_
  refine zG ?_
  refine zG ?_
  refine wY ?_
  refine vS (O.load rfl rfl (by repeat(exact List.Mem.head _)) (by exact hl2)) ?_
  refine vS (O.nilCheckR rfl rfl) ?_
  refine vS vR ?_
  refine vS (O.idxLR rfl rfl rfl (by exact m0j _)) ?_
  refine vS (O.loadR rfl rfl (by exact e0F hx _)) ?_
  refine zG ?_
  refine zG ?_
  refine wY ?_
  refine vS (O.load rfl rfl (by repeat(exact List.Mem.head _)) (by exact hl3)) ?_
  refine vS (O.nilCheckR rfl rfl) ?_
  refine vS vR ?_
  refine vS (O.idxLR rfl rfl rfl (by exact m0j _)) ?_
  refine vS (O.loadR rfl rfl (by exact e0F hx _)) ?_
  refine zG ?_
  refine zG ?_
  refine wY ?_
  refine vS (O.load rfl rfl (by repeat(exact List.Mem.head _)) (by exact hl0)) ?_
  refine vS (O.nilCheckR rfl rfl) ?_
  refine vS vR ?_
  refine vS (O.idxLR rfl rfl rfl (by exact m0j _)) ?_
  refine vS (O.loadR rfl rfl (by exact e0F hx _)) ?_
  refine xQ ?_
  refine FA.opN vH rfl rfl rfl rfl ?_
  refine wZ ?_
  simp only[a0f,cN,cA,cP]
  rintro _ _ ⟨B2,rfl,rfl⟩
  simp only[cA,cN]
  refine xG 0 (zI (zo (zD (zr ?_))))
  refine zb ?_
  refine vT (xH rfl Tryz.func195 rfl rfl rfl (k0S _)) ?_
  refine zc (zI (zo (zD (zr ?_))))
  refine zb (zI (zo (xj ?_)))
  have hz: [AV.val (.int .u8 ((sb (wS key (16*i-4+1))^^^rcF (i-1)).toNat:Int)),by8 (sb (wS key (16*i-4+2))),by8 (sb (wS key (16*i-4+3))),by8 (sb (wS key (16*i-4)))]=arB 4 (tz key i 0):=by
   show _= [by8 (zS key i 0),by8 (zS key i 1),by8 (zS key i 2),by8 (zS key i 3)]
   have z0:zS key i 0=sb (wS key (16*i-4+1))^^^rcF (i-1):=rfl
   have z1:zS key i 1=sb (wS key (16*i-4+2)):=q0K _
   have z2:zS key i 2=sb (wS key (16*i-4+3)):=q0K _
   have z3:zS key i 3=sb (wS key (16*i-4)):=q0K _
   rw[z0,z1,z2,z3]
  rw[hz]
  have hrc:dbl (rcF (i-1))=rcF (i+1-1):=by
   rw[show i+1-1=(i-1)+1 by omega,rcF]
  rw[hrc]
  refine zh [(0,_),(4,_),(5,_),(6,_),(8,_)] (fun nn E H=> ∃(k:Nat),(k≤16)∧nn=16-k∧E= [(59,.val (.int .i64 (k:Int)))]∧H= [.blk B2 215 4 (arB 4 (tz key i k)),.blk B1 186 176 (arB 176 (cut key (16*i+k)))]) _ (⟨0,by omega,rfl,rfl,rfl⟩) ?_
  rintro nn E H ⟨k,hk,rfl,rfl,rfl⟩
  dsimp only[cA,cN]
  refine zD (zr ?_)
  refine zP (zI (zo (zD ?_)))
  refine yk (fun h2=> ?_) (fun h2=> ?_)<;>(try simp only[vX]at h2)
  ·have hk':k<16:=by omega
   refine yX (zo (zD (xj (zD (zr ?_)))))
   refine zb ?_
   refine zc (zI (zo (zD ?_)))
   refine yw 12 ?_
   simp only[cT,cZ,cD,cO]
   refine zG ?_
   refine vS wc ?_
   refine xl ?_
   refine vS (O.load rfl rfl (by repeat(exact List.Mem.head _)) (by exact s0V (k:=k) (by omega))) ?_
   refine zG ?_
   refine xT ?_
   refine zG ?_
   refine xl ?_
   refine xl ?_
   refine vS (O.load rfl rfl mM (by exact n0U (k:=16*(i-1)+k) (by omega) (by omega) (by omega))) ?_
   refine wm ?_
   refine xl ?_
   refine wZ ?_
   simp only[a0f,cN,cA,cP]
   refine AO.store (i:=0) rfl rfl rfl rfl rfl rfl (by rfl) (by rfl) (by exact Nat.ble_eq_true_of_le (by rw[a0b];omega)) (by exact a0M (k:=k%4) (by omega) _ (by omega)) (by(dsimp only[List.set,List.append,cA,cN,a0d,a0n,AV.cells,List.map,List.map_cons,List.map_nil,List.take,List.drop,Nat.zero_add,Nat.add_zero,Nat.reduceAdd,Nat.reduceMul,Nat.zero_mul,Value.cells,List.toList_toArray,a0p,List.replicate,List.flatten,cP];done)) (zI (zo ?_))
   refine yw 8 ?_
   simp only[cT,cZ,cD,cO]
   refine zG ?_
   refine zG ?_
   refine zG ?_
   refine vS wc ?_
   refine xl ?_
   refine vS (O.load rfl rfl (by repeat(exact List.Mem.head _)) (by exact a0o (k:=k%4) (by omega) (by omega))) ?_
   refine xl ?_
   refine xl ?_
   refine wZ ?_
   simp only[a0f,cN,cA,cP]
   refine AO.store (i:=1) rfl rfl rfl rfl rfl rfl (by rfl) (by rfl) (by exact Nat.ble_eq_true_of_le (by rw[a0b];omega)) (by exact a0M (k:=16*i+k) (by omega) _ (by omega)) (by(dsimp only[List.set,List.append,cA,cN,a0d,a0n,AV.cells,List.map,List.map_cons,List.map_nil,List.take,List.drop,Nat.zero_add,Nat.add_zero,Nat.reduceAdd,Nat.reduceMul,Nat.zero_mul,Value.cells,List.toList_toArray,a0p,List.replicate,List.flatten,cP];done)) (zI (xz (zo (zr ?_))))
   refine zA ?_
   refine zb (zI ?_)
   have hw:=u0E key hi.1 hk'
   have e1:arB 4 (fun q=>if q=k%4 then zS key i k^^^wS key (16*(i-1)+k)else tz key i k q)=arB 4 (tz key i (k+1)):=a0c fun q hq=>by
    rw[←hw];exact q0T q hq
   have e2:arB 176 (fun q=>if q=16*i+k then(if True then zS key i k^^^wS key (16*(i-1)+k)else tz key i k (k%4))else cut key (16*i+k) q)=arB 176 (cut key (16*i+(k+1))):=a0c fun q hq=>by
    rw[if_pos trivial,←hw]
    unfold cut
    rcases Nat.lt_trichotomy q (16*i+k)with h1|h1|h1
    ·rw[if_neg (by omega),if_pos h1,if_pos (by omega)]
    ·rw[if_pos h1,if_pos (by omega),h1]
    rw[if_neg (by omega),if_neg (by omega),if_neg (by omega)]
   rw[e1,e2]
   refine zq _ _ _ (by omega) (⟨k+1,by omega,rfl,rfl,rfl⟩)
  obtain rfl:k=16:=by omega
  refine wb ?_
  refine xY ?_
  refine x3 ?_
  refine xx (xz (zo (zr ?_)))
  refine zb ?_
  refine zA ?_
  refine zc (zI ?_)
  refine zJ _ _ _ (by omega) (⟨i+1,by omega,rfl,rfl,rfl⟩)
 obtain rfl:i=11:=by omega
 have e:arB 176 (cut key (16*11))=arB 176 (wS key):=a0c fun q hq=>if_pos hq
 rw[e]
 refine wb ?_
 refine xY ?_
 refine x3 ?_
 refine xx (zo (zD (zr ?_)))
 refine xA ?_
 refine AO.store (i:=0) rfl rfl rfl rfl rfl rfl (by exact c0H _ _) (by exact a0b _ _) (by exact Nat.ble_eq_true_of_le (Nat.le_of_eq (a0b _ _).symm)) (by exact b0t (a0b _ _)) (by(dsimp only[List.set,List.append,cA,cN,a0d,a0n,AV.cells,List.map,List.map_cons,List.map_nil,List.take,List.drop,Nat.zero_add,Nat.add_zero,Nat.reduceAdd,Nat.reduceMul,Nat.zero_mul,Value.cells,List.toList_toArray,a0p,List.replicate,List.flatten,cP];done)) (zI (zo (xc ?_)))
 refine AQ.retCell (ys:=arB 176 (wS key)) rfl rfl (by repeat(exact List.Mem.head _)) (List.take_of_length_le (Nat.le_of_eq (a0b _ _))) (a0b _ _) nS ⟨rfl,rfl⟩
def tq (key:Nat→UInt8)(i j:Nat):UInt8:=if i%4=0 then sb (wS key (4*i-4+(j+1)%4))^^^ (if j=0 then rcF (i/4-1)else 0)else wS key (4*i-4+j)
theorem s0O (key:Nat→UInt8){i j:Nat}(hi:4≤i)(hj:j<4):wS key (4*i-16+j)^^^tq key i j=wS key (4*i+j):=by
 rw[UInt8.xor_comm,s0Q (q:=4*i+j) (by omega),tq]
 by_cases h:i%4=0
 ·have h1:(4*i+j)%16=j:=by omega
  rw[if_pos h,h1,if_pos hj,show 4*i+j-j-4=4*i-4 by omega,show(4*i+j)/16=i/4 by omega,show 4*i+j-16=4*i-16+j by omega]
 rw[if_neg h,if_neg (by omega),show 4*i+j-4=4*i-4+j by omega,show 4*i+j-16=4*i-16+j by omega]
theorem s0o:j0Z (arB 256 RB) 0 sb:=fun v=>by
 have:=v.toNat_lt
 rw[a0o (k:=v.toNat) (by omega) (by omega),RB,UInt8.ofNat_toNat]
theorem u0V (a:UInt8):l0t a 2=dbl a:=c0L (p:=fun a=>l0t a 2=dbl a) (by decide +kernel) a
theorem c0g {n:Nat}{f:Nat→UInt8}{v:UInt8}(h:v=f n):arB n f++[by8 v]=arB (n+1) f:=by
 subst h;rw[c0K,c0K,List.range_succ,List.map_append];rfl
theorem i0a (key:Nat→UInt8):Sp Tryz.prog 200 [.ro false 16 (arB 16 key),.agg (arB 256 RB)] [] (Is (.ro false 176 (arB 176 (wS key)))):=by
 refine yN Tryz.func200 _ Tryz.ntmps200 (fun w0 R0=> ?_)
 refine zD (zr ?_)
 refine ye ?_
 intro B1
 refine zc (zI (zo (zD (zr ?_))))
 refine zb ?_
 refine vV (O.appendNil rfl (by rfl) (by rfl) rfl rfl (by exact SrcA.ro TyD.ax (by rfl) (lB rfl)) (by rfl) (by(unfold maxLen;omega)) (by omega)) ?_
 intro V2 hV2
 refine zc (zI (zo (zD (zr ?_))))
 refine zc (zI (zo (zD (zD (zr ?_)))))
 refine zc (zI (zo (xj ?_)))
 have e0:arB 16 key=arB (4*4) (wS key):=a0c fun q hq=>(m0f hq).symm
 rw[e0]
 refine zh [(3,_)] (fun nn E H=> ∃(i:Nat) (V:Value),(4≤i∧i≤44)∧(V.oneCell'=true)∧nn=44-i∧E= [(5,.val V),(6,by8 (rcF ((i-1)/4))),(7,.val (.int .i64 (i:Int)))]∧H= [.row V 5 1 (4*i) (arB (4*i) (wS key)),.blk B1 181 (arB 256 RB).length (arB 256 RB)]) _ (⟨4,V2,by omega,hV2,rfl,rfl,rfl⟩) ?_
 rintro nn E H ⟨i,V,hi,hV,rfl,rfl,rfl⟩
 dsimp only[cA,cN]
 refine zD (zD (zr ?_))
 refine zb ?_
 refine zP (zI (zo ?_))
 refine yk (fun h=> ?_) (fun h=> ?_)<;>(try simp only[vX]at h)
 ·have hi':i<44:=by omega
  have hld: ∀d:Nat,1≤d→d≤4→(arB (4*i) (wS key))[0+(4*(i:Int)-(d:Int)).toNat*1]? =some (by8 (wS key (4*i-d))):=fun d h1 h2=>a0o (by omega) (by omega)
  have hl4:=hld 4 (by omega) (by omega)
  have hl3:=hld 3 (by omega) (by omega)
  have hl2:=hld 2 (by omega) (by omega)
  have hl1:=hld 1 (by omega) (by omega)
  refine AW.g ?_
  refine G.openRow 0 rfl (by omega) (fun b' cap hc1 hc2 hxs hVe=> ?_)
  refine AW.u ?_
  subst hVe
  dsimp only[List.set]
  refine yX (zo (zD (xj (zD ?_))))
  refine yw 26 ?_
  simp only[cT,cZ,cD,cO]
  refine zG ?_
  refine zG ?_
  refine xt ?_
  refine xT ?_
  refine wY ?_
  refine vS (O.load rfl rfl (by repeat(exact List.Mem.head _)) (by exact hl4)) ?_
  refine zG ?_
  refine zG ?_
  refine xt ?_
  refine xT ?_
  refine wY ?_
  refine vS (O.load rfl rfl (by repeat(exact List.Mem.head _)) (by exact hl3)) ?_
  refine zG ?_
  refine zG ?_
  refine xt ?_
  refine xT ?_
  refine wY ?_
  refine vS (O.load rfl rfl (by repeat(exact List.Mem.head _)) (by exact hl2)) ?_
  refine zG ?_
  refine zG ?_
  refine xt ?_
  refine xT ?_
  refine wY ?_
  refine vS (O.load rfl rfl (by repeat(exact List.Mem.head _)) (by exact hl1)) ?_
  refine xQ ?_
  refine FA.opN vH rfl rfl rfl rfl ?_
  refine wZ ?_
  simp only[a0f,cN,cA,cP]
  rintro _ _ ⟨B3,rfl,rfl⟩
  simp only[cA,cN]
  refine xG 0 (zI (zo (zD (zD (zr ?_)))))
  refine zb ?_
  refine wk ?_
  refine z9 (zI (zo ?_))
  refine xL True [(3,_),(5,_),(7,_),(8,_)] [(6,by8 (rcF (i/4)))] [.blk B3 215 4 (arB 4 (tq key i)),.blk b' 5 (cap*1) (arB (4*i) (wS key)),.blk B1 181 (arB 256 RB).length (arB 256 RB)] (fun h43=> ?_) (fun h43=> ?_) (fun hj=> ?_)<;>try(try simp only[vX]at h43)
  ·have h4:i%4=0:=by omega
   refine zD ?_
   refine yw 19 ?_
   simp only[cT,cZ,cD,cO]
   refine xl ?_
   refine yL ?_
   refine vS (O.idxL rfl rfl rfl (by exact m0j _)) ?_
   refine vS wL ?_
   refine zG ?_
   refine wm ?_
   refine xl ?_
   refine yL ?_
   refine vS (O.idxL rfl rfl rfl (by exact m0j _)) ?_
   refine vS wL ?_
   refine xl ?_
   refine yL ?_
   refine vS (O.idxL rfl rfl rfl (by exact m0j _)) ?_
   refine vS wL ?_
   refine xl ?_
   refine yL ?_
   refine vS (O.idxL rfl rfl rfl (by exact m0j _)) ?_
   refine vS wL ?_
   refine xQ ?_
   refine wZ ?_
   simp only[a0f,cN,cA,cP]
   refine xG 0 (zI (zo (zr ?_)))
   refine zb ?_
   refine vT (xH rfl Tryz.func209 rfl rfl rfl (n0r _ 2)) ?_
   refine zc (zI ?_)
   have ht: [AV.val (.int .u8 ((sb (wS key (4*i-3))^^^rcF ((i-1)/4)).toNat:Int)),by8 (sb (wS key (4*i-2))),by8 (sb (wS key (4*i-1))),by8 (sb (wS key (4*i-4)))]=arB 4 (tq key i):=by
    show _= [by8 (tq key i 0),by8 (tq key i 1),by8 (tq key i 2),by8 (tq key i 3)]
    have t0:tq key i 0=sb (wS key (4*i-3))^^^rcF ((i-1)/4):=by
     rw[tq,if_pos h4,if_pos rfl,show 4*i-4+(0+1)%4=4*i-3 by omega,show i/4-1=(i-1)/4 by omega]
    have t1:tq key i 1=sb (wS key (4*i-2)):=by
     rw[tq,if_pos h4,if_neg (by omega),q0K,show 4*i-4+(1+1)%4=4*i-2 by omega]
    have t2:tq key i 2=sb (wS key (4*i-1)):=by
     rw[tq,if_pos h4,if_neg (by omega),q0K,show 4*i-4+(2+1)%4=4*i-1 by omega]
    have t3:tq key i 3=sb (wS key (4*i-4)):=by
     rw[tq,if_pos h4,if_neg (by omega),q0K,show 4*i-4+(3+1)%4=4*i-4 by omega]
    rw[t0,t1,t2,t3]
   rw[ht]
   have hr:l0t (rcF ((i-1)/4)) 2=rcF (i/4):=by
    rw[u0V,show i/4=(i-1)/4+1 by omega,rcF]
   rw[hr]
   refine vb
  ·have h4: ¬i%4=0:=by omega
   refine yX ?_
   have ht: [by8 (wS key (4*i-4)),by8 (wS key (4*i-3)),by8 (wS key (4*i-2)),by8 (wS key (4*i-1))]=arB 4 (tq key i):=by
    show _= [by8 (tq key i 0),by8 (tq key i 1),by8 (tq key i 2),by8 (tq key i 3)]
    unfold tq
    rw[if_neg h4,if_neg h4,if_neg h4,if_neg h4,show 4*i-4+0=4*i-4 by omega,show 4*i-4+1=4*i-3 by omega,show 4*i-4+2=4*i-2 by omega,show 4*i-4+3=4*i-1 by omega]
   rw[ht]
   have hr:rcF ((i-1)/4)=rcF (i/4):=by rw[show(i-1)/4=i/4 by omega]
   rw[hr]
   refine yj
  dsimp only[cA,cN]
  refine zo (zD (zr ?_))
  refine zb (zI (zo (xj ?_)))
  refine AW.g ?_
  refine G.closeRow (b:=b') 1 rfl hxs rfl hc1 hc2 ?_
  refine AW.u ?_
  dsimp only[List.set]
  refine xK [(3,_),(6,_),(7,_),(8,_)] (fun nn E H=> ∃(j:Nat) (W:Value),(j≤4)∧(W.oneCell'=true)∧nn=4-j∧E= [(5,.val W),(65,.val (.int .i64 (j:Int)))]∧H= [.row W 5 1 (4*i+j) (arB (4*i+j) (wS key)),.blk B3 215 4 (arB 4 (tq key i)),.blk B1 181 (arB 256 RB).length (arB 256 RB)]) _ (⟨0,_,by omega,hV,rfl,rfl,rfl⟩) ?_
  rintro nn E H ⟨j,W,hj,hW,rfl,rfl,rfl⟩
  dsimp only[cA,cN]
  refine zD (zr ?_)
  refine zP (zI (zo (zD ?_)))
  refine yk (fun h2=> ?_) (fun h2=> ?_)<;>(try simp only[vX]at h2)
  ·have hj':j<4:=by omega
   refine AW.g ?_
   refine G.openRow 0 rfl (by omega) (fun b2 cap2 hd1 hd2 hxs2 hVe2=> ?_)
   refine AW.u ?_
   subst hVe2
   dsimp only[List.set]
   refine yX (zo (zD (xj (zD (zr ?_)))))
   refine zb ?_
   refine zc (zI (zo ?_))
   refine yw 14 ?_
   simp only[cT,cZ,cD,cO]
   refine zG ?_
   refine zG ?_
   refine zG ?_
   refine xt ?_
   refine xT ?_
   refine zG ?_
   refine xk ?_
   refine wY ?_
   refine vS (O.load rfl rfl (by repeat(exact List.Mem.head _)) (by exact a0o (k:=4*i-16+j) (by omega) (by omega))) ?_
   refine zG ?_
   refine xl ?_
   refine vS (O.load rfl rfl mM (by exact a0o (k:=j) (by omega) (by omega))) ?_
   refine wm ?_
   refine vS yY ?_
   refine wZ ?_
   simp only[a0f,cN,cA,cP]
   refine AO.g ?_
   refine G.closeRow (b:=b2) 0 rfl hxs2 rfl hd1 hd2 ?_
   refine AO.u ?_
   dsimp only[List.set]
   refine yn 0 ?_
   intro V4 hV4
   refine zc (zI (xz (zo (zr ?_))))
   refine zA ?_
   refine zb (zI ?_)
   rw[show arB (4*i+j) (wS key)++[AV.val (.int .u8 ((wS key (4*i-16+j)^^^tq key i j).toNat:Int))]=arB (4*i+j+1) (wS key)from c0g (s0O key hi.1 hj')]
   refine zq _ _ _ (by omega) (⟨j+1,V4,by omega,hV4,rfl,rfl,rfl⟩)
  obtain rfl:j=4:=by omega
  refine wb ?_
  refine xY ?_
  refine x3 ?_
  refine xx (xz (zo (zr ?_)))
  refine zb ?_
  refine zA ?_
  refine zc (zI ?_)
  refine xC _ _ _ (by omega) (⟨i+1,W,by omega,hW,rfl,rfl,rfl⟩)
 obtain rfl:i=44:=by omega
 refine wb ?_
 refine xY ?_
 refine x3 ?_
 refine xx (zo (zD (zr ?_)))
 refine zb ?_
 refine zc (zI (zo (xc ?_)))
 refine AQ.g ?_
 refine yf 0 [4] ?_
 refine AQ.u ?_
 try dsimp only[List.map,List.eraseIdx,cA,cN]
 refine yE
def f0H (q:Nat):UInt8:= [2,3,1,1].getD q 0
def v0c (q:Nat):UInt8:= [14,11,13,9].getD q 0
def d0v (w f:Nat→UInt8):Nat→Nat→UInt8
 |0=>fun q=>f q^^^w (0*16+q)
 |i+1=>fun q=>(if i+1<10 then e0S (shF sb 1 (d0v w f i)) f0H else shF sb 1 (d0v w f i)) q^^^w ((i+1)*16+q)
def enc (w f:Nat→UInt8):Nat→UInt8:=d0v w f 10
def v0W (ys:List AV)(o:Nat)(w:Nat→UInt8):Prop:= ∀i,i<11→(ys.drop (o+i*16)).take 16=arB 16 fun q=>w (i*16+q)
theorem l0L (b:Nat)(f w:Nat→UInt8)(xs ys:List AV)(o oy:Nat)(hx:j0Z xs o sb)(hw:v0W ys oy w):Sp Tryz.prog 197 [.rp xs o,.rp ys oy,pt b] [stB b f] (IsM (.val (.tuple #[])) (stB b (enc w f))):=by
 refine yN Tryz.func197 _ Tryz.ntmps197 (fun w0 R0=> ?_)
 refine zD (zr ?_)
 refine zb ?_
 refine zb ?_
 refine vT (O.nilCheckR rfl rfl) ?_
 refine vT (O.idxLR rfl rfl rfl ⟨(by omega),(by omega)⟩) ?_
 refine vT (O.loadRK rfl rfl (by exact hw 0 (by omega)) (by exact a0b _ _)) ?_
 refine xM 0 rfl rfl Tryz.func206 rfl rfl rfl rfl rfl rfl (j0g _ _ _) (zI (zo (zD (zr ?_))))
 refine zc (zI (zo (xj ?_)))
 refine zh [(0,_),(1,_),(2,_)] (fun nn E H=> ∃(j:Nat),(j≤10)∧nn=10-j∧E= [(6,.val (.int .i64 ((j+1:Nat):Int)))]∧H= [stB b (d0v w f j)]) _ (⟨0,by omega,rfl,rfl,rfl⟩) ?_
 rintro nn E H ⟨j,hj,rfl,rfl,rfl⟩
 dsimp only[cA,cN]
 refine zD (zD (zr ?_))
 refine zb ?_
 refine zP (zI (zo ?_))
 refine yk (fun h=> ?_) (fun h=> ?_)<;>(try simp only[vX]at h)
 ·refine yX (zo (zD (xj (zD (zr ?_)))))
  refine zb ?_
  refine zb ?_
  refine vT (O.nilCheckR rfl rfl) ?_
  refine vT vR ?_
  refine xM 0 rfl rfl Tryz.func207 rfl rfl rfl rfl rfl rfl (m0w _ _ _ _ _ hx) (zI (zo (zD (zD (zr ?_)))))
  refine zb ?_
  refine zP (zI (zo ?_))
  refine yk (fun h23=> ?_) (fun h23=> ?_)<;>(try simp only[vX]at h23)
  ·have e:(fun q=>e0S (shF sb 1 (d0v w f j)) f0H q^^^w ((j+1)*16+q))=d0v w f (j+1):=by rw[d0v,if_pos (by omega)]
   refine zr ?_
   refine zb ?_
   refine zN ?_
   refine xM 0 rfl rfl Tryz.func208 rfl rfl rfl rfl rfl rfl (t0C _ _ f0H) (zI (zo (zr ?_)))
   refine zb ?_
   refine zb ?_
   refine zb ?_
   refine vT (O.nilCheckR rfl rfl) ?_
   refine vT (O.idxLR rfl rfl rfl ⟨(by omega),(by omega)⟩) ?_
   refine vT (O.loadRK rfl rfl (by exact hw (j+1) (by omega)) (by exact a0b _ _)) ?_
   refine xM 0 rfl rfl Tryz.func206 rfl rfl rfl rfl rfl rfl (j0g _ _ _) (zI (xz (zo (zr ?_))))
   refine zb ?_
   refine zA ?_
   refine zc (zI ?_)
   rw[e]
   refine zq _ _ _ (by omega) (⟨j+1,by omega,rfl,rfl,rfl⟩)
  have e:(fun q=>shF sb 1 (d0v w f j) q^^^w ((j+1)*16+q))=d0v w f (j+1):=by rw[d0v,if_neg (by omega)]
  refine yX (zo (zr ?_))
  refine zb ?_
  refine zb ?_
  refine zb ?_
  refine vT (O.nilCheckR rfl rfl) ?_
  refine vT (O.idxLR rfl rfl rfl ⟨(by omega),(by omega)⟩) ?_
  refine vT (O.loadRK rfl rfl (by exact hw (j+1) (by omega)) (by exact a0b _ _)) ?_
  refine xM 0 rfl rfl Tryz.func206 rfl rfl rfl rfl rfl rfl (j0g _ _ _) (zI (xz (zo (zr ?_))))
  refine zb ?_
  refine zA ?_
  refine zc (zI ?_)
  rw[e]
  refine zq _ _ _ (by omega) (⟨j+1,by omega,rfl,rfl,rfl⟩)
 obtain rfl:j=10:=by omega
 refine wb ?_
 refine xY ?_
 refine x3 ?_
 refine xx ?_
 refine AQ.retN (AQ.ret0 rfl ⟨_,by repeat(first|exact List.Sublist.slnil|refine List.Sublist.cons_cons _ ?_),List.Perm.refl _⟩ (⟨rfl,rfl⟩))
def g0u (w:Nat→UInt8):List AV:=arB 512 TB++arB 176 w
theorem q0x (w:Nat→UInt8):j0Z (g0u w) 0 sb:=fun v=>by
 have h:=u0d v
 have:=v.toNat_lt
 unfold g0u
 rw[List.getElem?_append_left (by rw[a0b];omega)];exact h
theorem t0Z (w:Nat→UInt8):v0W (g0u w) 512 w:=fun i hi=>by
 unfold g0u
 rw[List.drop_append,List.drop_eq_nil_of_le (by rw[a0b];omega),cN,a0b,Nat.add_sub_cancel_left]
 exact h0a (by omega)
theorem p0O:g0u (fun _=>0)=arB 688 (fun q=>if 0≤q∧q<0+512 then TB (q-0)else 0):=by
 unfold g0u
 rw[j0V]
 refine a0c fun q hq=> ?_
 by_cases h:q<512
 ·rw[if_pos h,if_pos (by omega)];rfl
 rw[if_neg h,if_neg (by omega)]
theorem s0n (w:Nat→UInt8){j:Nat}(hj:j=512):a0d (g0u fun _=>0) j (arB 176 w)=g0u w:=by
 subst hj
 unfold g0u
 rw[c0p _ _ _ (by rw[cH,a0b,a0b,a0b];omega),a0b,List.take_left' (a0b _ _),List.drop_eq_nil_of_le (by rw[cH,a0b,a0b];omega),cP]
theorem n0X (w:Nat→UInt8):(g0u w).length=688:=by unfold g0u;rw[cH,a0b,a0b]
instance (priority:=2000) cip83:TyB Tryz.prog 188 [(0,512),(512,176)] (.agg ⟨List.replicate 688 (.int .u8 0)⟩):=⟨Tryz.t188,Tryz.type188,by kernel_rfl,.inl ⟨_,Tryz.underlying188,rfl⟩⟩
theorem t0R:d0u ([(0,512),(512,176)][·]?) ((Value.agg ⟨List.replicate 688 (.int .u8 0)⟩).cells.toList.map AV.val) [(0,.agg (arB 512 TB))]=some (g0u fun _=>0):=by
 have hz:((Value.agg ⟨List.replicate 688 (.int .u8 0)⟩).cells.toList.map AV.val)=arB 688 (fun _=>0):=f0j 688
 rw[hz]
 unfold d0u
 have h1:(AV.agg (arB 512 TB)).cells.length=512:=a0b _ _
 have h2:(arB 688 fun _=>0).length=688:=a0b _ _
 simp only[List.getElem?_cons_zero,h1,h2]
 rw[show(Nat.beq 512 512&&Nat.ble (0+512) 688)=true from by decide]
 simp only[cond_true,d0u]
 refine congrArg some ?_
 show a0d (arB 688 fun _=>0) 0 (arB 512 TB)=_
 rw[d0p (by omega),←p0O]
def kf (l:List UInt8):Nat→UInt8:=fun q=>l.getD q 0
theorem n0F {l:List UInt8}{n:Nat}(h:l.length=n):fnB n (kf l)=l:=by
 subst h
 apply List.ext_getElem?
 intro q
 by_cases hq:q<l.length
 ·simp[fnB,kf,hq]
 simp[fnB,hq]
theorem i0c {l:List UInt8}{n:Nat}(h:l.length=n):roB l= .ro false n (arB n (kf l)):=by
 rw[←b0E,n0F h]
theorem i0V (key:Nat→UInt8):Sp Tryz.prog 157 [.ro false 16 (arB 16 key)] [] (a0W pt 188 688 (g0u (wS key))):=by
 refine yN Tryz.func157 _ Tryz.ntmps157 (fun w0 R0=> ?_)
 refine zD (zr ?_)
 refine zc (zI (zo (zD (zr ?_))))
 refine vT (xH rfl Tryz.func177 rfl rfl rfl q0Y) ?_
 refine vT (O.build rfl rfl rfl (by exact t0R)) ?_
 refine ye ?_
 intro B1
 refine zc (zI (zo (zD (zr ?_))))
 refine zb ?_
 refine zb ?_
 refine vA ?_
 refine zt ?_
 refine zb ?_
 refine vT (O.callLB rfl Tryz.func178 rfl rfl rfl (by repeat(exact List.Mem.head _)) (o0D _ _ (q0x _)) (n0b _ _) (by(repeat(first|exact LendB.nil|refine LendB.lend ?_|refine LendB.same ?_));done)) ?_
 refine vA ?_
 refine zt ?_
 refine AO.store (i:=0) rfl rfl rfl rfl rfl rfl (by exact c0H _ _) (by exact a0b _ _) (by exact Nat.ble_eq_true_of_le (Nat.le_of_eq (n0X _).symm)) (by exact s0n _ rfl) (by(dsimp only[List.set,List.append,cA,cN,AV.cells,a0d,List.take,List.drop,Nat.reduceAdd];done)) (zI (zo (zD (zr ?_))))
 refine zb ?_
 refine zc (zI (zo (xc ?_)))
 rw[n0X]
 refine vu rfl rfl ⟨_,by repeat(first|exact List.Sublist.slnil|refine List.Sublist.cons_cons _ ?_),List.Perm.refl _⟩ (⟨B1,rfl,rfl⟩)
theorem h0M (w f:Nat→UInt8):Sp Tryz.prog 179 [.rp (g0u w) 0,.agg (arB 16 f)] [] (Is (.agg (arB 16 (enc w f)))):=by
 refine yN Tryz.func179 _ Tryz.ntmps179 (fun w0 R0=> ?_)
 refine zD (zr ?_)
 refine ye ?_
 intro B1
 refine zd ?_
 intro B2
 refine zI (zo (zD (zr ?_)))
 refine vq ?_
 refine zd ?_
 intro B3
 refine xf 0 (zI (zo (zD ?_)))
 refine yw 6 ?_
 simp only[cT,cZ,cD,cO]
 refine zG ?_
 refine vS (O.nilCheckR rfl rfl) ?_
 refine vS vR ?_
 refine zG ?_
 refine vS (O.nilCheckR rfl rfl) ?_
 refine vS vR ?_
 refine wZ ?_
 simp only[a0f,cN,cA,cP]
 refine xM 0 rfl rfl Tryz.func197 rfl rfl rfl rfl rfl rfl (l0L _ f w (g0u w) (g0u w) 0 512 (q0x w) (t0Z w)) (zI (zo (zD (zr ?_))))
 refine xA ?_
 refine xf 1 (zI (zo (xc ?_)))
 refine AQ.retCell rfl rfl mM (by rfl) rfl nS (⟨rfl,rfl⟩)
def t0U (key blk:List UInt8):List UInt8:=if key.length=16∧blk.length=16 then fnB 16 (enc (wS (kf key)) (kf blk))else []
def u0v (key blk:List UInt8):Int:=if key.length=16∧blk.length=16 then 0 else 1
def s0v (w f:Nat→UInt8):Nat→Nat→UInt8
 |0=>f
 |k+1=>shF iv 3 (if 10-k<10 then e0S (fun q=>s0v w f k q^^^w ((10-k)*16+q)) v0c else fun q=>s0v w f k q^^^w ((10-k)*16+q))
def dec (w f:Nat→UInt8)(q:Nat):UInt8:=s0v w f 10 q^^^w (0*16+q)
abbrev a0B (b:Nat)(f:Nat→UInt8):HE:= .blk b 171 16 (arB 16 f)
theorem b0o {b:Nat}{f g:Nat→UInt8}(h: ∀q,q<16→f q=g q):a0B b f=a0B b g:=congrArg (fun x=>HE.blk b 171 16 x) (a0c h)
theorem e0o (f k:Nat→UInt8):Sp Tryz.prog 201 [.agg (arB 16 f),.ro false 16 (arB 16 k)] [] (Is (.agg (arB 16 fun q=>f q^^^k q))):=by
 refine yN Tryz.func201 _ Tryz.ntmps201 (fun w0 R0=> ?_)
 refine zD (zr ?_)
 refine ye ?_
 intro B1
 refine zd ?_
 intro B2
 refine zI (zo (zD (zD (zr ?_))))
 refine zb (zI (zo (xj ?_)))
 have e0:a0B B1 f=a0B B1 (fun q=>if q<0 then f q^^^k q else f q):=b0o fun q _=>(if_neg (by omega)).symm
 refine zh [(1,_),(2,_),(4,_)] (fun nn E H=> ∃(i:Nat),(i≤16)∧nn=16-i∧E= [(6,.val (.int .i64 (i:Int)))]∧H= [a0B B2 (fun _=>0),a0B B1 (fun q=>if q<i then f q^^^k q else f q)]) _ (⟨0,by omega,rfl,rfl,congrArg (fun x=> [a0B B2 (fun _=>0),x]) e0⟩) ?_
 rintro nn E H ⟨i,hi,rfl,rfl,rfl⟩
 dsimp only[cA,cN]
 refine zD (zr ?_)
 refine zP (zI (zo (zD ?_)))
 refine yk (fun h=> ?_) (fun h=> ?_)<;>(try simp only[vX]at h)
 ·refine yX (zo (zD (xj (zD (zr ?_)))))
  refine zb ?_
  refine zc (zI (zo ?_))
  refine yw 9 ?_
  simp only[cT,cZ,cD,cO]
  refine zG ?_
  refine yP ?_
  refine vS (O.load rfl rfl mM (by exact a0o (k:=i) (by omega) (by omega))) ?_
  refine zG ?_
  refine zG ?_
  refine xn ?_
  refine vS (O.loadR rfl rfl (by exact a0o (k:=i) (by omega) (by omega))) ?_
  refine wm ?_
  refine yP ?_
  refine wZ ?_
  simp only[a0f,cN,cA,cP]
  refine yM 1 rfl rfl rfl rfl rfl rfl (by rfl) (by rfl) (by exact Nat.ble_eq_true_of_le (by rw[a0b];omega)) (by exact a0M (k:=i) (by omega) _ (by omega)) (zI (xz (zo (zr ?_))))
  refine zA ?_
  refine zb (zI ?_)
  have e:a0B B1 (fun q=>if q=i then(if i<i then f i^^^k i else f i)^^^k i else if q<i then f q^^^k q else f q)=a0B B1 (fun q=>if q<i+1 then f q^^^k q else f q):=b0o fun q _=>by
   rcases Nat.lt_trichotomy q i with h1|rfl|h1
   ·rw[if_neg (by omega),if_pos h1,if_pos (by omega)]
   ·rw[if_pos rfl,if_neg (by omega),if_pos (by omega)]
   rw[if_neg (by omega),if_neg (by omega),if_neg (by omega)]
  refine zq _ _ _ (by omega) (⟨i+1,by omega,rfl,rfl,congrArg (fun x=> [a0B B2 (fun _=>0),x]) e⟩)
 obtain rfl:i=16:=by omega
 refine wb ?_
 refine xY ?_
 refine x3 ?_
 refine xx (zo (zD (zr ?_)))
 refine vT (O.loadK rfl rfl mM (by exact List.take_of_length_le (Nat.le_of_eq (a0b _ _))) (by rfl)) ?_
 refine AO.store (i:=0) rfl rfl rfl rfl rfl rfl (by rfl) (by rfl) (by rfl) (by exact b0t rfl) (by(dsimp only[List.set,cA,cN,List.take,List.drop];done)) (zI (zo (xc ?_)))
 refine AQ.retCell (ys:=arB 16 (fun q=>if q<16 then f q^^^k q else f q)) rfl rfl (by repeat(exact List.Mem.head _)) (List.take_of_length_le (Nat.le_of_eq (a0b _ _))) (a0b _ _) nS ⟨congrArg AV.agg (a0c fun q hq=>if_pos hq),rfl⟩
def rK (f m:Nat→UInt8)(c r:Nat):Nat→UInt8
 |0=>0
 |k+1=>rK f m c r k^^^l0t (f (4*c+k)) (m ((k+4-r)%4))
def o0O (f m:Nat→UInt8)(q:Nat):UInt8:=rK f m (q/4) (q%4) 4
theorem s0J (a b c:UInt8):a^^^ (b^^^c)=b^^^ (a^^^c):=by rw[←UInt8.xor_assoc,UInt8.xor_comm a b,UInt8.xor_assoc]
theorem r0l (f m:Nat→UInt8)(q:Nat):o0O f m q=e0S f m q:=by
 unfold o0O e0S
 have h4:q%4<4:=Nat.mod_lt _ (by decide)
 simp only[rK,q0n]
 generalize q/4=c at*
 generalize q%4=r at*
 rcases(show r=0∨r=1∨r=2∨r=3 by omega)with rfl|rfl|rfl|rfl<;>simp[UInt8.xor_assoc,UInt8.xor_comm,s0J]
def rU (f m:Nat→UInt8)(c r k q:Nat):UInt8:=if q=4*c+r then rK f m c r k else if q<4*c+r then o0O f m q else 0
theorem r0r (f m:Nat→UInt8){c r:Nat}(hr:r<4)(q:Nat):rU f m c r 4 q=rU f m c (r+1) 0 q:=by
 unfold rU
 rcases Nat.lt_trichotomy q (4*c+r)with h1|h1|h1
 ·rw[if_neg (by omega),if_pos h1,if_neg (by omega),if_pos (by omega)]
 ·rw[if_pos h1,if_neg (by omega),if_pos (by omega),o0O,h1,show(4*c+r)/4=c by omega,show(4*c+r)%4=r by omega]
 rw[if_neg (by omega),if_neg (by omega)]
 by_cases h2:q=4*c+(r+1)
 ·rw[if_pos h2];rfl
 rw[if_neg h2,if_neg (by omega)]
theorem t0j (f m:Nat→UInt8){c:Nat}(q:Nat):rU f m c 4 0 q=rU f m (c+1) 0 0 q:=by
 unfold rU
 rw[show 4*(c+1)+0=4*c+4 by omega]
 by_cases h:q=4*c+4
 ·rw[if_pos h,if_pos h];rfl
 rw[if_neg h,if_neg h]
theorem r0q (f m:Nat→UInt8)(q:Nat):rU f m 0 0 0 q=0:=by
 unfold rU
 by_cases h:q=4*0+0
 ·rw[if_pos h];rfl
 rw[if_neg h,if_neg (by omega)]
theorem m0E (f m:Nat→UInt8):Sp Tryz.prog 202 [.agg (arB 16 f),.agg (arB 4 m)] [] (Is (.agg (arB 16 (e0S f m)))):=by
 refine yN Tryz.func202 _ Tryz.ntmps202 (fun w0 R0=> ?_)
 refine zD (zr ?_)
 refine ye ?_
 intro B1
 refine ye ?_
 intro B2
 refine zd ?_
 intro B3
 refine zI (zo (zD (zr ?_)))
 refine zd ?_
 intro B4
 refine zI (zo (zD (zD (zr ?_))))
 refine zb (zI (zo (xj ?_)))
 have e0:a0B B4 (fun _=>0)=a0B B4 (rU f m 0 0 0):=b0o fun q _=>(r0q f m q).symm
 refine zh [(2,_),(3,_),(4,_),(5,_)] (fun nn E H=> ∃(c:Nat),(c≤4)∧nn=4-c∧E= [(9,.val (.int .i64 (c:Int)))]∧H= [a0B B4 (rU f m c 0 0),a0B B3 (fun _=>0),.blk B2 215 4 (arB 4 m),a0B B1 f]) _ (⟨0,by omega,rfl,rfl,congrArg (fun x=> [x,a0B B3 (fun _=>0),.blk B2 215 4 (arB 4 m),a0B B1 f]) e0⟩) ?_
 rintro nn E H ⟨c,hc,rfl,rfl,rfl⟩
 dsimp only[cA,cN]
 refine zD (zr ?_)
 refine zP (zI (zo (zD ?_)))
 refine yk (fun h=> ?_) (fun h=> ?_)<;>(try simp only[vX]at h)
 ·refine yX (zo (zD (xj (zD (zr ?_)))))
  refine zb ?_
  refine zc (zI (zo (zD (zr ?_))))
  refine zb (zI (zo (xj ?_)))
  refine zh [(2,_),(3,_),(4,_),(5,_),(6,_),(9,_)] (fun nn E H=> ∃(r:Nat),(r≤4)∧nn=4-r∧E= [(12,.val (.int .i64 (r:Int)))]∧H= [a0B B4 (rU f m c r 0),a0B B3 (fun _=>0),.blk B2 215 4 (arB 4 m),a0B B1 f]) _ (⟨0,by omega,rfl,rfl,rfl⟩) ?_
  rintro nn E H ⟨r,hr,rfl,rfl,rfl⟩
  dsimp only[cA,cN]
  refine zD (zr ?_)
  refine zP (zI (zo (zD ?_)))
  refine yk (fun h2=> ?_) (fun h2=> ?_)<;>(try simp only[vX]at h2)
  ·have hr':r<4:=by omega
   have hc':c<4:=by omega
   refine yX (zo (zD (xj (zD (zr ?_)))))
   refine zb ?_
   refine zc (zI (zo (zD (zr ?_))))
   refine zb (zI (zo (xj ?_)))
   refine zh [(2,_),(3,_),(4,_),(5,_),(6,_),(7,_),(9,_),(12,_)] (fun nn E H=> ∃(k:Nat),(k≤4)∧nn=4-k∧E= [(15,.val (.int .i64 (k:Int)))]∧H= [a0B B4 (rU f m c r k),a0B B3 (fun _=>0),.blk B2 215 4 (arB 4 m),a0B B1 f]) _ (⟨0,by omega,rfl,rfl,rfl⟩) ?_
   rintro nn E H ⟨k,hk,rfl,rfl,rfl⟩
   dsimp only[cA,cN]
   refine zD (zr ?_)
   refine zP (zI (zo (zD ?_)))
   refine yk (fun h3=> ?_) (fun h3=> ?_)<;>(try simp only[vX]at h3)
   ·refine yX (zo (zD (xj (zD (zr ?_)))))
    refine zb ?_
    refine zc (zI (zo ?_))
    refine yw 22 ?_
    simp only[cT,cZ,cD,cO]
    refine zG ?_
    refine xt ?_
    refine zG ?_
    refine xk ?_
    refine yP ?_
    refine vS (O.load rfl rfl (by repeat(exact List.Mem.head _)) (by exact a0o (k:=4*c+r) (by omega) (by omega))) ?_
    refine zG ?_
    refine xt ?_
    refine zG ?_
    refine xk ?_
    refine yP ?_
    refine vS (O.load rfl rfl mM (by exact a0o (k:=4*c+k) (by omega) (by omega))) ?_
    refine zG ?_
    refine zG ?_
    refine xT ?_
    refine xk ?_
    refine vS wc ?_
    refine yP ?_
    refine vS (O.load rfl rfl mM (by exact a0o (k:=(k+4-r)%4) (by omega) (by omega))) ?_
    refine vS (xH rfl Tryz.func209 rfl rfl rfl (n0r _ _)) ?_
    refine wm ?_
    refine yP ?_
    refine wZ ?_
    simp only[a0f,cN,cA,cP]
    refine yM 0 rfl rfl rfl rfl rfl rfl (by rfl) (by rfl) (by exact Nat.ble_eq_true_of_le (by rw[a0b];omega)) (by exact a0M (k:=4*c+r) (by omega) _ (by omega)) (zI (xz (zo (zr ?_))))
    refine zA ?_
    refine zb (zI ?_)
    have e:a0B B4 (fun q=>if q=4*c+r then rU f m c r k (4*c+r)^^^l0t (f (4*c+k)) (m ((k+4-r)%4))else rU f m c r k q)=a0B B4 (rU f m c r (k+1)):=b0o fun q _=>by
     unfold rU
     by_cases h1:q=4*c+r
     ·rw[if_pos h1,if_pos rfl,if_pos h1];rfl
     rw[if_neg h1,if_neg h1,if_neg h1]
    refine zq _ _ _ (by omega) (⟨k+1,by omega,rfl,rfl,congrArg (fun x=> [x,a0B B3 (fun _=>0),.blk B2 215 4 (arB 4 m),a0B B1 f]) e⟩)
   obtain rfl:k=4:=by omega
   refine wb ?_
   refine xY ?_
   refine x3 ?_
   refine xx (xz (zo (zr ?_)))
   refine zA ?_
   refine zb (zI ?_)
   have e:a0B B4 (rU f m c r 4)=a0B B4 (rU f m c (r+1) 0):=b0o fun q _=>r0r f m hr' q
   refine zq _ _ _ (by omega) (⟨r+1,by omega,rfl,rfl,congrArg (fun x=> [x,a0B B3 (fun _=>0),.blk B2 215 4 (arB 4 m),a0B B1 f]) e⟩)
  obtain rfl:r=4:=by omega
  refine wb ?_
  refine xY ?_
  refine x3 ?_
  refine xx (xz (zo (zr ?_)))
  refine zA ?_
  refine zb (zI ?_)
  have e:a0B B4 (rU f m c 4 0)=a0B B4 (rU f m (c+1) 0 0):=b0o fun q _=>t0j f m q
  refine zq _ _ _ (by omega) (⟨c+1,by omega,rfl,rfl,congrArg (fun x=> [x,a0B B3 (fun _=>0),.blk B2 215 4 (arB 4 m),a0B B1 f]) e⟩)
 obtain rfl:c=4:=by omega
 refine wb ?_
 refine xY ?_
 refine x3 ?_
 refine xx (zo (zD (zr ?_)))
 refine vT (O.loadK rfl rfl (by repeat(exact List.Mem.head _)) (by exact List.take_of_length_le (Nat.le_of_eq (a0b _ _))) (by rfl)) ?_
 refine AO.store (i:=1) rfl rfl rfl rfl rfl rfl (by rfl) (by rfl) (by rfl) (by exact b0t rfl) (by(dsimp only[List.set,cA,cN,List.take,List.drop];done)) (zI (zo (xc ?_)))
 refine AQ.retCell (ys:=arB 16 (rU f m 4 0 0)) rfl rfl mM (List.take_of_length_le (Nat.le_of_eq (a0b _ _))) (a0b _ _) nS ⟨congrArg AV.agg (a0c fun q hq=>by rw[←r0l];unfold rU;rw[if_neg (by omega),if_pos (by omega)]),rfl⟩
theorem o0X (key blk:List UInt8):Sp Tryz.prog 186 [roB key,roB blk] [] (Is (.tup [roB (t0U key blk),.val (.int .i64 (u0v key blk))])):=by
 refine yN Tryz.func186 _ Tryz.ntmps186 (fun w0 R0=> ?_)
 refine zD (zr ?_)
 refine zc ?_
 refine zc (zI (zo (zD (zD (zr ?_)))))
 refine zb ?_
 refine zW ?_
 refine y1 ?_
 refine zb ?_
 refine yt ?_
 refine yb 17 ?_
 refine xS 18 ?_
 refine zE (zI (zo ?_))
 refine yk (fun h=> ?_) (fun h=> ?_)<;>(try simp only[vX]at h)
 ·have e1:t0U key blk= []:=if_neg (by omega)
  have e2:u0v key blk=1:=if_neg (by omega)
  rw[e1,e2]
  refine zD (zr ?_)
  refine zc ?_
  refine zc (zI (zo (xc (xr ?_))))
  refine x8 yJ yq (⟨rfl,rfl⟩)
 have hk:key.length=16:=by omega
 have hb:blk.length=16:=by omega
 rw[t0U,u0v,if_pos ⟨hk,hb⟩,if_pos ⟨hk,hb⟩]
 refine AW.g ?_
 refine G.re 0 (.ro false 16 (arB 16 (kf key))) (congrArg some (i0c hk)) ?_
 refine AW.u ?_
 refine AW.g ?_
 refine G.re 1 (.ro false 16 (arB 16 (kf blk))) (congrArg some (i0c hb)) ?_
 refine AW.u ?_
 obtain⟨w,hwd⟩: ∃w,w=wS (kf key):=⟨_,rfl⟩
 have hs0:(arB 176 (wS (kf key))).take (16*1)=arB 16 (fun q=>w (0*16+q)):=by
  have:=h0a (n:=176) (f:=w) (j:=0) (k:=16) (by omega)
  rw[hwd]at this⊢
  simpa using this
 have hseg: ∀r,r<11→((arB 176 w).drop (16*r*1)).take (16*1)=arB 16 fun q=>w (r*16+q):=fun r hr=>by
  rw[show 16*r*1=r*16 by omega];exact h0a (by omega)
 refine yX (zo (zD (zr ?_)))
 refine vT (xH rfl Tryz.func199 rfl rfl rfl k0n) ?_
 refine wu ?_
 intro B1
 refine ym 0 (zI (zo (zD (zr ?_))))
 refine zb ?_
 refine xA ?_
 refine vT (xH rfl Tryz.func200 rfl rfl rfl (i0a _)) ?_
 refine zc (zI (zo (zD ?_)))
 refine yw 7 ?_
 simp only[cT,cZ,cD,cO]
 refine zG ?_
 refine vS (O.toArr rfl rfl (by omega) (by omega)) ?_
 refine vS (O.loadRK rfl rfl (by exact List.take_of_length_le (Nat.le_of_eq (a0b _ _))) (by exact a0b _ _)) ?_
 refine zG ?_
 refine vS (O.sliceTo (k:=16) rfl rfl rfl (by rfl) (by omega) (by exact hs0)) ?_
 refine vS (xH rfl Tryz.func201 rfl rfl rfl (e0o _ _)) ?_
 refine yV ?_
 refine wZ ?_
 simp only[a0f,cN,cA,cP]
 rintro _ _ ⟨B2,rfl,rfl⟩
 simp only[cA,cN]
 refine xf 0 (zI (zo (zD (zD (zr ?_)))))
 refine zc (zI (zo (xj ?_)))
 rw[←hwd]
 refine zh [(6,_),(7,_),(8,_)] (fun nn E H=> ∃(j:Nat),(j≤10)∧nn=10-j∧E= [(9,.val (.int .i64 ((j+1:Nat):Int)))]∧H= [a0B B2 (d0v w (kf blk) j),.blk B1 181 256 (arB 256 RB)]) _ (⟨0,by omega,rfl,rfl,rfl⟩) ?_
 rintro nn E H ⟨j,hj,rfl,rfl,rfl⟩
 dsimp only[cA,cN]
 refine zD (zD (zr ?_))
 refine zb ?_
 refine vN (zI (zo ?_))
 refine yk (fun hj1=> ?_) (fun hj1=> ?_)<;>(try simp only[vX]at hj1)
 ·obtain⟨g,hg⟩: ∃g,g=d0v w (kf blk) j:=⟨_,rfl⟩
  have hst: ∀q,d0v w (kf blk) (j+1) q=(if j+1<10 then e0S (shF sb 1 g) f0H else shF sb 1 g) q^^^w ((j+1)*16+q):=fun q=>by rw[d0v,hg]
  rw[←hg]
  refine yX (zo (zD (xj (zD (zr ?_)))))
  refine zd ?_
  intro B3
  refine zI (zo (zD (zD (zr ?_))))
  refine zb (zI (zo (xj ?_)))
  have e0:a0B B3 (fun _=>0)=a0B B3 (fun q=>if q<4*0+0 then shF sb 1 g q else 0):=b0o fun q _=>(if_neg (by omega)).symm
  refine zh [(6,_),(7,_),(8,_),(9,_),(10,_)] (fun nn E H=> ∃(c:Nat),(c≤4)∧nn=4-c∧E= [(35,.val (.int .i64 (c:Int)))]∧H= [a0B B3 (fun q=>if q<4*c+0 then shF sb 1 g q else 0),a0B B2 g,.blk B1 181 256 (arB 256 RB)]) _ (⟨0,by omega,rfl,rfl,congrArg (fun x=> [x,a0B B2 g,.blk B1 181 256 (arB 256 RB)]) e0⟩) ?_
  rintro nn E H ⟨c,hc,rfl,rfl,rfl⟩
  dsimp only[cA,cN]
  refine zD (zr ?_)
  refine zP (zI (zo (zD ?_)))
  refine yk (fun hc4=> ?_) (fun hc4=> ?_)<;>(try simp only[vX]at hc4)
  ·refine yX (zo (zD (xj (zD (zr ?_)))))
   refine zb ?_
   refine zc (zI (zo (zD (zr ?_))))
   refine zb (zI (zo (xj ?_)))
   refine zh [(6,_),(7,_),(8,_),(9,_),(10,_),(11,_),(35,_)] (fun nn E H=> ∃(r:Nat),(r≤4)∧nn=4-r∧E= [(38,.val (.int .i64 (r:Int)))]∧H= [a0B B3 (fun q=>if q<4*c+r then shF sb 1 g q else 0),a0B B2 g,.blk B1 181 256 (arB 256 RB)]) _ (⟨0,by omega,rfl,rfl,rfl⟩) ?_
   rintro nn E H ⟨r,hr,rfl,rfl,rfl⟩
   dsimp only[cA,cN]
   refine zD (zr ?_)
   refine zP (zI (zo (zD ?_)))
   refine yk (fun hr4=> ?_) (fun hr4=> ?_)<;>(try simp only[vX]at hr4)
   ·have hr':r<4:=by omega
    have hix:(0+(4*(((c:Int)+(r:Int))%4)+(r:Int)).toNat*1)=r+4*((c+r)%4):=by
     have hi:(4*(((c:Int)+(r:Int))%4)+(r:Int))=((r+4*((c+r)%4):Nat):Int):=by push_cast;omega
     rw[hi,Int.toNat_natCast];omega
    have hgb:(arB 16 g)[0+(4*(((c:Int)+(r:Int))%4)+(r:Int)).toNat*1]? =some (by8 (g (r+4*((c+r)%4)))):=by rw[hix];exact a0o (by omega) rfl
    have hsh:shF sb 1 g (4*c+r)=sb (g (r+4*((c+r)%4))):=by
     rw[shF,show(4*c+r)%4=r by omega,show(4*c+r)/4=c by omega,Nat.one_mul]
    refine yX (zo (zD (xj (zD (zr ?_)))))
    refine zb ?_
    refine zc (zI (zo (zr ?_)))
    refine zb ?_
    refine wE ?_
    refine zb ?_
    refine zA ?_
    refine zb ?_
    refine zb ?_
    refine zA ?_
    refine wk ?_
    refine wE ?_
    refine zb ?_
    refine zA ?_
    refine xR ?_
    refine vT (O.load rfl rfl mM (by exact hgb)) ?_
    refine vT (O.idxL rfl rfl rfl (by exact m0j _)) ?_
    refine vT wL ?_
    refine xR ?_
    refine yM 0 rfl rfl rfl rfl rfl rfl (by rfl) (by rfl) (by exact Nat.ble_eq_true_of_le (by rw[a0b];omega)) (by exact a0M (k:=4*c+r) (by omega) _ (by omega)) (zI (xz (zo (zr ?_))))
    refine zA ?_
    refine zb (zI ?_)
    have e:a0B B3 (fun q=>if q=4*c+r then sb (g (r+4*((c+r)%4)))else if q<4*c+r then shF sb 1 g q else 0)=a0B B3 (fun q=>if q<4*c+(r+1)then shF sb 1 g q else 0):=b0o fun q _=>by
     rw[←hsh]
     rcases Nat.lt_trichotomy q (4*c+r)with h1|h1|h1
     ·rw[if_neg (by omega),if_pos h1,if_pos (by omega)]
     ·rw[if_pos h1,if_pos (by omega),h1]
     rw[if_neg (by omega),if_neg (by omega),if_neg (by omega)]
    refine zq _ _ _ (by omega) (⟨r+1,by omega,rfl,rfl,congrArg (fun x=> [x,a0B B2 g,.blk B1 181 256 (arB 256 RB)]) e⟩)
   obtain rfl:r=4:=by omega
   refine wb ?_
   refine xY ?_
   refine x3 ?_
   refine xx (xz (zo (zr ?_)))
   refine zA ?_
   refine zb (zI ?_)
   refine zq _ _ _ (by omega) (⟨c+1,by omega,rfl,rfl,rfl⟩)
  obtain rfl:c=4:=by omega
  have e:a0B B3 (fun q=>if q<4*4+0 then shF sb 1 g q else 0)=a0B B3 (shF sb 1 g):=b0o fun q hq=>if_pos hq
  rw[e]
  refine wb ?_
  refine xY ?_
  refine x3 ?_
  refine xx (zo (zD (zD (zr ?_))))
  refine zb ?_
  refine zP (zI (zo ?_))
  refine yk (fun h10=> ?_) (fun h10=> ?_)<;>(try simp only[vX]at h10)
  ·refine zr ?_
   refine xA ?_
   refine zN ?_
   refine vT (xH rfl Tryz.func202 rfl rfl rfl (m0E _ f0H)) ?_
   refine ym 0 (zI (zo ?_))
   refine yw 9 ?_
   simp only[cT,cZ,cD,cO]
   refine vE ?_
   refine zG ?_
   refine zG ?_
   refine xt ?_
   refine zG ?_
   refine xt ?_
   refine xk ?_
   refine vS (O.sliceLHm (m:=16) rfl rfl rfl rfl (l:=16*(j+1)) (h:=16*(j+1)+16) (by omega) (by omega) (by omega) (by omega) (by omega) (by exact hseg (j+1) (by omega))) ?_
   refine vS (xH rfl Tryz.func201 rfl rfl rfl (e0o _ _)) ?_
   refine wZ ?_
   simp only[a0f,cN,cA,cP]
   refine ym 1 (zI (xz (zo (zr ?_))))
   refine zb ?_
   refine zA ?_
   refine zc (zI ?_)
   have e2:a0B B2 (fun q=>e0S (shF sb 1 g) f0H q^^^w ((j+1)*16+q))=a0B B2 (d0v w (kf blk) (j+1)):=b0o fun q _=>by rw[hst,if_pos (by omega)]
   refine zJ _ _ _ (by omega) (⟨j+1,by omega,rfl,rfl,congrArg (fun x=> [x,.blk B1 181 256 (arB 256 RB)]) e2⟩)
  refine yX (zo ?_)
  refine yw 9 ?_
  simp only[cT,cZ,cD,cO]
  refine vE ?_
  refine zG ?_
  refine zG ?_
  refine xt ?_
  refine zG ?_
  refine xt ?_
  refine xk ?_
  refine vS (O.sliceLHm (m:=16) rfl rfl rfl rfl (l:=16*(j+1)) (h:=16*(j+1)+16) (by omega) (by omega) (by omega) (by omega) (by omega) (by exact hseg (j+1) (by omega))) ?_
  refine vS (xH rfl Tryz.func201 rfl rfl rfl (e0o _ _)) ?_
  refine wZ ?_
  simp only[a0f,cN,cA,cP]
  refine ym 1 (zI (xz (zo (zr ?_))))
  refine zb ?_
  refine zA ?_
  refine zc (zI ?_)
  have e2:a0B B2 (fun q=>shF sb 1 g q^^^w ((j+1)*16+q))=a0B B2 (d0v w (kf blk) (j+1)):=b0o fun q _=>by rw[hst,if_neg (by omega)]
  refine zJ _ _ _ (by omega) (⟨j+1,by omega,rfl,rfl,congrArg (fun x=> [x,.blk B1 181 256 (arB 256 RB)]) e2⟩)
 obtain rfl:j=10:=by omega
 have ef:AV.ro false (16-0) (List.take ((16-0)*1) (arB 16 (d0v w (kf blk) 10)))=roB (fnB 16 (enc w (kf blk))):=by
  show AV.ro false 16 (List.take 16 (arB 16 (d0v w (kf blk) 10)))=_
  rw[List.take_of_length_le (Nat.le_of_eq (a0b _ _))]
  exact(b0E 16 _).symm
 refine wb ?_
 refine xY ?_
 refine x3 ?_
 refine xx (zo (zD (zr ?_)))
 refine vT (O.sliceArrK (p:=0) rfl rfl rfl rfl (by rfl) (by rfl) ⟨by omega,by omega⟩ (by omega)) ?_
 refine vV (O.appendNil rfl (by rfl) (by rfl) rfl rfl (by exact SrcA.blk TyD.ax (by repeat(exact List.Mem.head _)) (by(dsimp only[List.set,cA,cN,List.take,List.drop];done)) (by rfl)) (by rfl) (by(unfold maxLen;omega)) (by omega)) ?_
 intro V4 hV4
 refine zc ?_
 refine zc (zI (zo (xc ?_)))
 refine AQ.g ?_
 refine yf 0 [4] ?_
 refine AQ.u ?_
 try dsimp only[List.map,List.eraseIdx,cA,cN]
 refine AQ.g ?_
 refine G.re 4 (roB (fnB 16 (enc w (kf blk)))) (congrArg some ef) ?_
 refine AQ.u ?_
 refine x8 yJ xe (⟨rfl,rfl⟩)
def bk (i q:Nat):UInt8:=if(iv (UInt8.ofNat q)).toNat<i then iv (UInt8.ofNat q)else 0
end Go.Proofs.YtojomcdjcpmnkaaGreat.By
namespace Go.Proofs.YtojomcdjcpmnkaaGreat.A
open Go.RowKit L
section
variable {P:Program}
def s0D:AV→Option Value
 | .val v=>some v
 | .agg xs=>(c0I xs).map fun vs=> .agg vs.toArray
 |_=>none
def o0Y:List AV→Option (List Value)
 | []=>some []
 |x::r=>match s0D x,o0Y r with|some v,some vs=>some (v::vs)|_,_=>none
theorem o0Z {R:Nat→Prop}{W:World}{x:AV}{v u:Value}(h:s0D x=some v)(hr:RelV R W x u):u=v:=by
 cases x with
 |val w=>cases h;exact hr.val_inv
 | agg xs=>
  simp only[s0D]at h
  cases hq:c0I xs with
  |none=>rw[hq]at h;cases h
  |some vs=>
   rw[hq]at h
   cases h
   obtain⟨us,rfl,h1⟩:=hr.agg_inv
   rw[g0x hq h1]
 |_=>cases h
theorem i0j {R:Nat→Prop}{W:World}: ∀{xs:List AV} {vs us:List Value},o0Y xs=some vs→RelL R W xs us→us=vs
 | [],vs,us,h,hr=>by cases h;exact List.eq_nil_of_length_eq_zero (by simpa using hr.1)
 | x::xs,vs,us,h,hr=>by
  obtain⟨u,r,rfl,h1,h2⟩:=hr.uncons
  simp only[o0Y]at h
  split at h
  ·rename_i v vs' e1 e2
   cases h
   rw[o0Z e1 h1,i0j e2 h2]
  ·cases h
theorem m0g {R:Nat→Prop}{W:World}: ∀{xs:List AV} {vs:List Value},c0I xs=some vs→RelL R W xs vs
 | [],vs,h=>by cases h;exact RelL.nil
 | x::xs,vs,h=>by
  cases x with
  | val w=>
   simp only[c0I]at h
   cases hq:c0I xs with
   |none=>rw[hq]at h;cases h
   |some us'=>
    rw[hq]at h
    cases h
    exact RelL.cons (.val _) (m0g hq)
  |_=>simp[c0I]at h
theorem r0w {R:Nat→Prop}{W:World}{x:AV}{v:Value}(h:s0D x=some v):RelV R W x v:=by
 cases x with
 |val w=>cases h;exact .val _
 |agg xs=>
  simp only[s0D]at h
  cases hq:c0I xs with
  |none=>rw[hq]at h;cases h
  |some vs=>rw[hq]at h;cases h;exact(m0g hq).toAgg
 |_=>cases h
theorem o0S {W W':World}{R:Nat→Prop}(hR: ∀b,R b→b<W.heap.size)(hE:Ext W W'):RelS ⟨W,a0D [],R,0⟩ R [] W':=
 ⟨hE.mono fun b _ h=>h.elim,fun b hb=>Nat.lt_of_lt_of_le (hR b hb) hE.size,fun _ h=>h,fun _ h=> .inl h,fun _ h=>(by cases h),fun _ h=>(by cases h),.nil⟩
theorem Sp.of_calls {f:FuncId}{args:List AV}{us:List Value}{r:AV}{v:Value}(ha:o0Y args=some us)(hr:s0D r=some v)(h: ∀W,Calls P f us.toArray W fun e W'=>e= .returned v∧Ext W W'):Sp P f args [] (Is r):=fun W R us' hR _ _ hrel=>by
 obtain rfl:=i0j ha hrel
 refine(h W).mono ?_
 rintro e W' ⟨rfl,hE⟩
 exact⟨v,r,[],R,rfl,⟨rfl,rfl⟩,o0S hR hE,r0w hr⟩
theorem Sp.frozen {f:FuncId}{args:List AV}{T:TypeId}{sz n:Nat}{ys:List AV}(h:Sp P f args [] (b0h T sz n ys)):Sp P f args [] (Is (.ro false n ys)):=fun W R us h1 h2 h3 h4=>by
 refine(h W R us h1 h2 h3 h4).mono ?_
 rintro e W' ⟨u,r,H',R',rfl,⟨v,rfl,hv1,rfl⟩,hs,hv⟩
 have hok:=hs.ok _ (List.mem_cons_self ..)
 have hown:=hs.own _ (List.mem_cons_self ..)
 have hu:=hv.val_inv
 subst hu
 refine⟨u,.ro false n ys,[],fun b=>R' b∨(HE.row u T sz n ys).foot b,rfl,⟨rfl,rfl⟩,⟨hs.mods,?_,fun b hb=> .inl (hs.rsub b hb),?_,fun _ h=>(by cases h),fun _ h=>(by cases h),.nil⟩,k0r hok⟩
 ·rintro b (hb|hb)
  ·exact hs.rlt b hb
  ·exact HE.ok_lt hok hb
 ·rintro b (hb|hb)
  ·exact hs.rnew b hb
  ·exact .inr (hown b hb).1
end
end Go.Proofs.YtojomcdjcpmnkaaGreat.A
namespace Go.Proofs.YtojomcdjcpmnkaaGreat.By
open Go.RowKit L A
attribute [local irreducible] AW AQ AO
theorem s0U (x:Int):0≤IntKind.u64.wrap x:=by rw[IntKind.wrap_u64];exact Int.emod_nonneg _ (by decide)
def o0A (k:Int)(i:Nat):UInt8:=u8 (((u8 ((IntKind.u64.wrap k).fdiv (2^min (IntKind.u64.wrap (8*IntKind.u64.wrap ((i:Int).tmod 8))).toNat IntKind.u64.bits))).toNat:Int)+((u8 (IntKind.i64.wrap ((i:Int).tdiv 8))).toNat:Int))
def m0q (k:Int)(n:Nat):List UInt8:=fnB n (o0A k)
theorem m0p (k:Int)(n:Nat):(m0q k n).length=n:=a0G _ _
theorem o0z (k:Int)(n:Nat)(hn:n≤1000000):Sp Tryz.prog 107 [.val (.int .i64 k),.val (.int .i64 (n:Int))] [] (b0h 5 1 n (arB n (o0A k))):=by
 refine yN Tryz.func107 _ Tryz.ntmps107 (fun w0 R0=> ?_)
 refine zD (zr ?_)
 refine zc (zI (zo (zD (zr ?_))))
 refine zc (zI (zo (zD (zD (zr ?_)))))
 refine zb ?_
 refine zb (zI (zo (xj ?_)))
 refine AW.g ?_
 refine G.nilRow 5 1 ?_
 refine AW.u ?_
 refine zh [(0,_),(7,_)] (fun nn E H=> ∃(i:Nat) (V:Value),(i≤n)∧(V.oneCell'=true)∧nn=n-i∧E= [(5,.val V),(8,.val (.int .i64 (i:Int)))]∧H= [.row V 5 1 i (arB i (o0A k))]) _ (⟨0,_,by omega,rfl,rfl,rfl,rfl⟩) ?_
 rintro nn E H ⟨i,V,h1,hV,rfl,rfl,rfl⟩
 dsimp only[cA,cN]
 have hsh:=s0U (8*IntKind.u64.wrap ((i:Int).tmod 8))
 refine zD (zr ?_)
 refine zP (zI (zo (zD ?_)))
 refine yk (fun h=> ?_) (fun h=> ?_)<;>(try simp only[vX]at h)
 ·refine yX (zo (zD (xj (zD (zr ?_)))))
  refine zb ?_
  refine zc (zI (zo (zr ?_)))
  refine zb ?_
  refine zb ?_
  refine vT (O.conv rfl rfl (by rfl)) ?_
  refine zb ?_
  refine vT (O.rem rfl rfl rfl (by omega) rfl) ?_
  refine vT (O.conv rfl rfl (by rfl)) ?_
  refine vT (O.mul rfl rfl rfl (by rfl)) ?_
  refine vT (O.shr rfl rfl rfl (by omega) rfl) ?_
  refine xa ?_
  refine zb ?_
  refine vT (O.quo rfl rfl rfl (by omega) (by rfl)) ?_
  refine xa ?_
  refine vT (O.add rfl rfl rfl (by exact c0Q)) ?_
  refine zQ ?_
  intro B1
  refine AO.g ?_
  refine yc 0 24 ?_
  refine wd 24 ?_
  refine AO.u ?_
  dsimp only[List.eraseIdx]
  refine y2 0 ?_
  intro V2 hV2
  refine zc (zI (xz (zo (zr ?_))))
  refine zA ?_
  refine zb (zI ?_)
  refine zq _ _ _ (by omega) (⟨i+1,V2,by omega,hV2,rfl,rfl,congrArg (fun xs=> [HE.row V2 5 1 (i+1) xs]) (c0g (f:=o0A k) (n:=i) rfl)⟩)
 obtain rfl:i=n:=by omega
 refine wb ?_
 refine xY ?_
 refine x3 ?_
 refine xx (zo (zD (zr ?_)))
 refine zb ?_
 refine zc (zI (zo (xc ?_)))
 refine vu rfl rfl ⟨_,by repeat(first|exact List.Sublist.slnil|refine List.Sublist.cons_cons _ ?_),List.Perm.refl _⟩ (⟨V,rfl,hV,rfl⟩)
theorem q0Z (k z:Int)(hz:0≤z∧z≤1000000):Sp Tryz.prog 107 [.val (.int .i64 k),.val (.int .i64 z)] [] (Is (roB (m0q k z.toNat))):=by
 have h:=Sp.frozen (o0z k z.toNat (by omega))
 rw[show((z.toNat:Nat):Int)=z by omega]at h
 rw[m0q,b0E]
 exact h
end Go.Proofs.YtojomcdjcpmnkaaGreat.By
namespace Go.Proofs.YtojomcdjcpmnkaaGreat.By
open Go.RowKit L A
def DX (b:UInt8):Prop:= ∀a,dbl (a^^^b)=dbl a^^^dbl b
theorem DX.xor {b c:UInt8}(h:DX b)(k:DX c):DX (b^^^c):=fun a=>by
 rw[←UInt8.xor_assoc,k,h,k,UInt8.xor_assoc]
theorem DX.zero:DX 0:=fun a=>by rw[UInt8.xor_zero,show dbl 0=0 from rfl,UInt8.xor_zero]
theorem d0K {S:UInt8→UInt8}{d:Nat}{f g:Nat→UInt8}(h: ∀q,q<16→f q=g q): ∀q,q<16→shF S d f q=shF S d g q:=fun q hq=>by
 unfold shF
 rw[h _ (by omega)]
theorem g0N {f g m:Nat→UInt8}{i:Nat}(hi:i<16)(h: ∀q,q<16→f q=g q): ∀k,q0n f m i k=q0n g m i k
 |0=>rfl
 |k+1=>by rw[q0n,q0n,g0N hi h k,h _ (by omega)]
theorem g0O {f g m:Nat→UInt8}(h: ∀q,q<16→f q=g q): ∀q,q<16→e0S f m q=e0S g m q:=fun q hq=>g0N hq h 4
theorem f0U (w f:Nat→UInt8)(q:Nat):d0v w f 0 q=f q^^^w (0*16+q):=rfl
theorem f0V (w f:Nat→UInt8)(j q:Nat):d0v w f (j+1) q=(if j+1<10 then e0S (shF sb 1 (d0v w f j)) f0H else shF sb 1 (d0v w f j)) q^^^w ((j+1)*16+q):=rfl
theorem e0D {w f g:Nat→UInt8}(h: ∀q,q<16→f q=g q): ∀j q,q<16→d0v w f j q=d0v w g j q
 |0,q,hq=>by rw[f0U,f0U,h q hq]
 | j+1,q,hq=>by
  rw[f0V,f0V]
  by_cases h9:j+1<10
  ·rw[if_pos h9,if_pos h9]
   show e0S _ _ q^^^_=e0S _ _ q^^^_
   rw[g0O (d0K (e0D h j)) q hq]
  rw[if_neg h9,if_neg h9]
  show shF _ _ _ q^^^_=shF _ _ _ q^^^_
  rw[d0K (e0D h j) q hq]
theorem f0T {w f g:Nat→UInt8}(h: ∀q,q<16→f q=g q): ∀q,q<16→enc w f q=enc w g q:=e0D h 10
theorem i0A {n:Nat}{f:Nat→UInt8}{q:Nat}(hq:q<n):kf (fnB n f) q=f q:=by simp[kf,fnB,hq]
def s0N (WL:List UInt8)(q:Nat):UInt8:=(if q%16<4 then sb (WL.getD (q-q%16-4+(q%16+1)%4) 0)^^^ (if q%16=0 then rcF (q/16-1)else 0)else WL.getD (q-4) 0)^^^WL.getD (q-16) 0
theorem s0P {key:Nat→UInt8}{WL:List UInt8}(h0: ∀q,q<16→key q=WL.getD q 0)(h: ∀q,q<176→16≤q→WL.getD q 0=s0N WL q): ∀q,q<176→wS key q=WL.getD q 0:=fun q=>by
 induction q using Nat.strongRecOn with
 |ind q ih=>
  intro hq
  by_cases h16:q<16
  ·rw[m0f h16,h0 q h16]
  rw[h q hq (by omega),s0Q h16,s0N,ih (q-16) (by omega) (by omega)]
  by_cases h4:q%16<4
  ·rw[if_pos h4,if_pos h4,ih (q-q%16-4+(q%16+1)%4) (by omega) (by omega)]
  rw[if_neg h4,if_neg h4,ih (q-4) (by omega) (by omega)]
def p0J (WL:List UInt8)(g:List UInt8)(j q:Nat):UInt8:=(if j+1<10 then e0S (shF sb 1 (kf g)) f0H else shF sb 1 (kf g)) q^^^WL.getD ((j+1)*16+q) 0
theorem n0J {w f:Nat→UInt8}{WL:List UInt8}{ST:List (List UInt8)}(hw: ∀q,q<176→w q=WL.getD q 0)(h0: ∀q,q<16→f q^^^WL.getD q 0=kf (ST.getD 0 []) q)(h: ∀j,j<10→ ∀q,q<16→p0J WL (ST.getD j []) j q=kf (ST.getD (j+1) []) q):
  ∀j,j≤10→ ∀q,q<16→d0v w f j q=kf (ST.getD j []) q
 |0,_,q,hq=>by rw[f0U,←h0 q hq,hw _ (by omega)];congr 2;omega
 | j+1,hj,q,hq=>by
  have ih:=n0J hw h0 h j (by omega)
  rw[←h j (by omega) q hq,f0V,p0J,hw _ (by omega)]
  by_cases h9:j+1<10
  ·rw[if_pos h9,if_pos h9]
   show e0S _ _ q^^^_=e0S _ _ q^^^_
   rw[g0O (d0K ih) q hq]
  rw[if_neg h9,if_neg h9]
  show shF _ _ _ q^^^_=shF _ _ _ q^^^_
  rw[d0K ih q hq]
attribute [local irreducible] AW AQ AO
def cvB (key nonce:List UInt8)(tag:Int):Bool:=(key.length:Int)==16&&decide (7≤(nonce.length:Int))&&decide ((nonce.length:Int)≤13)&&decide (4≤tag)&&decide (tag≤16)&&tag.tmod 2==0
theorem k0T {key nonce:List UInt8}{tag:Int}(h:cvB key nonce tag=true):key.length=16∧7≤nonce.length∧nonce.length≤13∧4≤tag∧tag≤16∧tag%2=0:=by
 unfold cvB at h
 simp only[Bool.and_eq_true,beq_iff_eq,cQ]at h
 obtain⟨⟨⟨⟨⟨h1,h2⟩,h3⟩,h4⟩,h5⟩,h6⟩:=h
 rw[Int.tmod_eq_emod_of_nonneg (by omega)]at h6
 omega
theorem k0V (key nonce:List UInt8)(tag:Int):Sp Tryz.prog 156 [roB key,roB nonce,.val (.int .i64 tag)] [] (Is (.val (.bool (cvB key nonce tag)))):=by
 refine yN Tryz.func156 _ Tryz.ntmps156 (fun w0 R0=> ?_)
 refine zD (zr ?_)
 refine zc (zI (zo (zD (zr ?_))))
 refine zb ?_
 refine zW ?_
 refine z9 ?_
 refine zb ?_
 refine yt ?_
 refine yb 11 ?_
 refine AO.opG rfl rfl rfl (fun hp=>wW 12 rfl (by exact hp) vh) ?_
 refine zV ?_
 refine zb ?_
 refine yt ?_
 refine yb 16 ?_
 refine xF 17 ?_
 refine zV ?_
 refine zb ?_
 refine yt ?_
 refine AO.opG rfl rfl rfl (fun hp=>wW 21 rfl (by exact hp) vh) ?_
 refine zV ?_
 refine zb ?_
 refine yt ?_
 refine xF 25 ?_
 refine zV ?_
 refine zb ?_
 refine yt ?_
 refine AO.opG rfl rfl rfl (fun hp=>wW 29 rfl (by exact hp) (O.rem rfl rfl rfl (by omega) rfl)) ?_
 refine y8 30 ?_
 refine zV ?_
 refine zc (zI (zo (xc ?_)))
 refine yE
theorem i0f (key nonce:List UInt8)(tag:Int):Sp Tryz.prog 169 [roB key,roB nonce,.val (.int .i64 tag)] [] (Is (.val (.bool (cvB key nonce tag)))):=by
 refine yN Tryz.func169 _ Tryz.ntmps169 (fun w0 R0=> ?_)
 refine zD (zr ?_)
 refine zc (zI (zo (zD (zr ?_))))
 refine zb ?_
 refine zW ?_
 refine z9 ?_
 refine zb ?_
 refine yt ?_
 refine yb 11 ?_
 refine AO.opG rfl rfl rfl (fun hp=>wW 12 rfl (by exact hp) vh) ?_
 refine zV ?_
 refine zb ?_
 refine yt ?_
 refine yb 16 ?_
 refine xF 17 ?_
 refine zV ?_
 refine zb ?_
 refine yt ?_
 refine AO.opG rfl rfl rfl (fun hp=>wW 21 rfl (by exact hp) vh) ?_
 refine zV ?_
 refine zb ?_
 refine yt ?_
 refine xF 25 ?_
 refine zV ?_
 refine zb ?_
 refine yt ?_
 refine AO.opG rfl rfl rfl (fun hp=>wW 29 rfl (by exact hp) (O.rem rfl rfl rfl (by omega) rfl)) ?_
 refine y8 30 ?_
 refine zV ?_
 refine zc (zI (zo (xc ?_)))
 refine yE
def c0a (first:UInt8)(nonce:List UInt8)(n:Int)(q:Nat):UInt8:=if q=0 then first else if q≤nonce.length then kf nonce (q-1)else u8 (n/256^ (15-q))
def b0F (first:UInt8)(nonce:List UInt8)(q:Nat):UInt8:=if q=0 then first else if q≤nonce.length then kf nonce (q-1)else 0
theorem e0Q (l:List UInt8):a0a l=arB l.length (kf l):=by
 have h:=n0F (l:=l) rfl
 exact(congrArg a0a h).symm
theorem v0l {first:UInt8}{nonce:List UInt8}(h:nonce.length≤15):a0d (arB 16 fun q=>if q=0 then first else 0) 1 ((a0a nonce).take (min nonce.length 15))=arB 16 (b0F first nonce):=by
 rw[Nat.min_eq_left h,List.take_of_length_le (Nat.le_of_eq (c0F _)),e0Q,d0p (by omega)]
 refine a0c fun q hq=> ?_
 unfold b0F
 by_cases h0:q=0
 ·rw[if_neg (by omega),if_pos h0,if_pos h0]
 rw[if_neg h0,if_neg h0]
 by_cases h1:q≤nonce.length
 ·rw[if_pos (by omega),if_pos h1]
 rw[if_neg (by omega),if_neg h1]
def bI (first:UInt8)(nonce:List UInt8)(n:Int)(i q:Nat):UInt8:=if i<q then c0a first nonce n q else b0F first nonce q
theorem p0a (n:Int)(k:Nat):n/256^k/256=n/256^ (k+1):=by
 rw[Int.ediv_ediv_of_nonneg (Int.pow_nonneg (by decide)),Int.pow_succ]
theorem s0p {first:UInt8}{nonce:List UInt8}{n:Int}{i:Nat}(hi:i<15+1)(hl:nonce.length<i)(q:Nat):(if q=i then u8 (n/256^ (15-i))else bI first nonce n i q)=bI first nonce n (i-1) q:=by
 unfold bI
 rcases Nat.lt_trichotomy q i with h|h|h
 ·rw[if_neg (by omega),if_neg (by omega),if_neg (by omega)]
 ·rw[if_pos h,if_pos (by omega),c0a,if_neg (by omega),if_neg (by omega),h]
 rw[if_neg (by omega),if_pos h,if_pos (by omega)]
theorem u8_zero:u8 0=0:=by decide
theorem u0f {first:UInt8}{nonce:List UInt8}{n:Int}{i:Nat}(h:i≤nonce.length∨n/256^ (15-i)≤0)(hn:0≤n)(hi:i≤15)(q:Nat)(hq:q<16):bI first nonce n i q=c0a first nonce n q:=by
 unfold bI
 by_cases h1:i<q
 ·rw[if_pos h1]
 rw[if_neg h1]
 unfold b0F c0a
 by_cases h0:q=0
 ·rw[if_pos h0,if_pos h0]
 rw[if_neg h0,if_neg h0]
 by_cases h2:q≤nonce.length
 ·rw[if_pos h2,if_pos h2]
 rw[if_neg h2,if_neg h2]
 rcases h with h|h
 ·omega
 have hz:n/256^ (15-i)=0:=Int.le_antisymm h (Int.ediv_nonneg hn (Int.pow_nonneg (by decide)))
 have hq0:n/256^ (15-q)=0:=by
  rw[show 15-q=(15-i)+(i-q) by omega,Int.pow_add,←Int.ediv_ediv_of_nonneg (Int.pow_nonneg (by decide)),hz,Int.zero_ediv]
 rw[hq0];exact u8_zero.symm
theorem g0f (first:UInt8)(nonce:List UInt8)(n:Int)(hl:nonce.length≤13)(hn:0≤n∧n≤9223372036854775807):Sp Tryz.prog 180 [by8 first,roB nonce,.val (.int .i64 n)] [] (Is (.agg (arB 16 (c0a first nonce n)))):=by
 have hl:nonce.length≤15:=by omega
 refine yN Tryz.func180 _ Tryz.ntmps180 (fun w0 R0=> ?_)
 refine zD (zr ?_)
 refine zd ?_
 intro B1
 refine zI (zo (zD (zr ?_)))
 refine zb ?_
 refine zN ?_
 refine zd ?_
 intro B2
 refine AO.store (i:=0) rfl rfl rfl rfl rfl rfl (by rfl) (by rfl) (by rfl) (by rfl) (by(dsimp only[List.set,cA,cN,List.take,List.drop];done)) (zI (zo (zD (zr ?_))))
 refine vT (O.sliceArrK (p:=1) rfl rfl rfl rfl (by rfl) (by rfl) ⟨by omega,by omega⟩ (by omega)) ?_
 refine zb ?_
 refine AO.copyIn (i:=0) rfl rfl rfl rfl (by exact c0F _) (by exact g0Y _) rfl (by show 0+1*1+min nonce.length (16-1)≤16;omega) (by exact v0l hl) rfl rfl (fun q h=>by cases h;exact lB rfl) ?_
 rintro _ rfl
 dsimp only[List.set]
 refine zI (zo (zD (zD (zr ?_))))
 refine zc (zI (zo (xj ?_)))
 have e0:arB 16 (b0F first nonce)=arB 16 (bI first nonce n 15):=a0c fun q hq=>by unfold bI;rw[if_neg (by omega)]
 rw[e0]
 refine zh [(1,_),(6,_),(7,_)] (fun nn E H=> ∃(i:Nat) (v:Int),(i≤15∧nonce.length≤i)∧(v=n/256^ (15-i))∧i=nn∧E= [(2,.val (.int .i64 v)),(8,.val (.int .i64 (i:Int)))]∧H= [.blk B2 171 16 (arB 16 (bI first nonce n i)),.blk B1 171 16 (arB 16 fun _=>0)]) _ (⟨15,n,by omega,by simp,rfl,rfl,rfl⟩) ?_
 rintro nn E H ⟨i,v,hi,hv,rfl,rfl,rfl⟩
 dsimp only[cA,cN]
 have hv0:0≤v:=by rw[hv];exact Int.ediv_nonneg hn.1 (Int.pow_nonneg (by decide))
 have hv1:v≤n:=by rw[hv];exact Int.ediv_le_self _ hn.1
 refine zD (zD (zr ?_))
 refine zb ?_
 refine zb ?_
 refine zW ?_
 refine yS ?_
 refine zb ?_
 refine yt ?_
 refine yp 19 ?_
 refine zV (zI (zo ?_))
 refine yk (fun h=> ?_) (fun h=> ?_)<;>(try simp only[vX]at h)
 ·obtain⟨j,rfl⟩: ∃j,i=j+1:=⟨i-1,by omega⟩
  refine yX (zo (zD (xj (zD (zr ?_)))))
  refine zb ?_
  refine zb ?_
  refine xa ?_
  refine wJ ?_
  refine yM 0 rfl rfl rfl rfl rfl rfl (by rfl) (by rfl) (by exact Nat.ble_eq_true_of_le (by rw[a0b];omega)) (by exact a0M (k:=j+1) (by omega) _ (by omega)) (zI (zo (zr ?_)))
  refine zb ?_
  refine vd ?_
  refine zc (zI (xz (zo (zr ?_))))
  refine zb ?_
  refine yK ?_
  refine zc (zI ?_)
  have e1:arB 16 (fun q=>if q=j+1 then u8 v else bI first nonce n (j+1) q)=arB 16 (bI first nonce n j):=a0c fun q _=>by
   rw[hv];exact s0p (by omega) (by omega) q
  rw[e1,show((j+1:Nat):Int)-1=(j:Int) by omega]
  have hv2:v/256=n/256^ (15-j):=by rw[hv,p0a];congr 2;omega
  refine zq _ _ _ (by omega) (⟨j,v/256,by omega,hv2,rfl,rfl,rfl⟩)
 have e2:arB 16 (bI first nonce n i)=arB 16 (c0a first nonce n):=a0c fun q hq=>u0f (by rw[←hv];omega) hn.1 hi.1 q hq
 rw[e2]
 refine wb ?_
 refine xY ?_
 refine x3 ?_
 refine xx (zo (zD (zr ?_)))
 refine xA ?_
 refine ym 1 (zI (zo (xc ?_)))
 refine AQ.retCell (ys:=arB 16 (c0a first nonce n)) rfl rfl mM (List.take_of_length_le (Nat.le_of_eq (a0b _ _))) (a0b _ _) nS ⟨rfl,rfl⟩
def absorb (w:Nat→UInt8)(x:Nat→UInt8)(l:List UInt8):Nat→UInt8:=
 if h:l= []then x else absorb w (enc w fun q=>x q^^^kf l q) (l.drop 16)
termination_by l.length
decreasing_by
 have:0<l.length:=List.length_pos_iff.2 h
 simp;omega
theorem a0Q (w x:Nat→UInt8):absorb w x []=x:=by rw[absorb,dif_pos rfl]
theorem b0b {w x:Nat→UInt8}{l:List UInt8}(h:l≠ []):absorb w x l=absorb w (enc w fun q=>x q^^^kf l q) (l.drop 16):=by rw[absorb,dif_neg h]
theorem h0D (l:List UInt8){q:Nat}(h:l.length≤q):kf l q=0:=by simp[kf,h]
theorem g0c (w:Nat→UInt8)(b:Nat)(x:Nat→UInt8)(l:List UInt8)(hl:l.length≤1000000):Sp Tryz.prog 198 [roB l,pt b,.rp [.rp (g0u w) 0] 0] [.blk b 171 16 (arB 16 x)] (IsM (.agg (arB 16 (absorb w x l))) (.blk b 171 16 (arB 16 (absorb w x l)))):=by
 refine yN Tryz.func198 _ Tryz.ntmps198 (fun w0 R0=> ?_)
 refine zD (zr ?_)
 refine zd ?_
 intro B1
 refine zI (zo (zD (xj ?_)))
 refine zh [(1,_),(2,_),(4,_)] (fun nn E H=> ∃(l':List UInt8) (x':Nat→UInt8),(absorb w x' l'=absorb w x l)∧(l'.length≤1000000)∧nn=l'.length∧E= [(0,roB l')]∧H= [.blk B1 171 16 (arB 16 fun _=>0),.blk b 171 16 (arB 16 x')]) _ (⟨l,x,rfl,hl,rfl,rfl,rfl⟩) ?_
 rintro nn E H ⟨l',x',hx,hl',rfl,rfl,rfl⟩
 dsimp only[cA,cN]
 refine zD (zD (zr ?_))
 refine zb ?_
 refine zW ?_
 refine yS (zI (zo ?_))
 refine yk (fun h=> ?_) (fun h=> ?_)<;>(try simp only[vX]at h)
 ·obtain⟨n,hn⟩: ∃n:Nat,n=min l'.length 16:=⟨_,rfl⟩
  have hmin:(if(16:Int)<(l'.length:Int)then(16:Int)else(l'.length:Int))=(n:Int):=by split<;>omega
  have hln:(l'.take n).length=n:=by rw[List.length_take];omega
  have hne:l'≠ []:=fun e=>by rw[e]at h;simp at h
  have hdr:l'.drop n=l'.drop 16:=by
   rcases Nat.lt_or_ge 16 l'.length with h1|h1
   ·rw[show n=16 by omega]
   rw[List.drop_eq_nil_of_le (by omega),List.drop_eq_nil_of_le (by omega)]
  refine yX (zo (zD (xj (zD (zD (zr ?_))))))
  refine zb ?_
  refine zb ?_
  refine zW ?_
  refine vT (O.minI rfl rfl rfl hmin) ?_
  refine vT (O.sliceToB (k:=n) rfl rfl rfl (by rfl) (by omega)) ?_
  refine zW ?_
  refine zb (zI (zo (xj ?_)))
  have e0:arB 16 x'=arB 16 (fun q=>if q<0 then x' q^^^kf l' q else x' q):=a0c fun q _=>(if_neg (by omega)).symm
  rw[e0]
  refine zh [(0,_),(1,_),(2,_),(4,_),(19,_),(20,_)] (fun nn E H=> ∃(i:Nat),(i≤n)∧nn=n-i∧E= [(21,.val (.int .i64 (i:Int)))]∧H= [.blk B1 171 16 (arB 16 fun _=>0),.blk b 171 16 (arB 16 fun q=>if q<i then x' q^^^kf l' q else x' q)]) _ (⟨0,by omega,rfl,rfl,rfl⟩) ?_
  rintro nn E H ⟨i,hi,rfl,rfl,rfl⟩
  dsimp only[cA,cN]
  refine zD (zr ?_)
  refine zP (zI (zo (zD ?_)))
  refine yk (fun h2=> ?_) (fun h2=> ?_)<;>(try simp only[vX]at h2)
  ·have hi':i<n:=by omega
   have hget:(a0a (l'.take n))[Int.toNat (i:Int)*1]? =some (by8 (kf l' i)):=by
    rw[b0d (k:=i) (by omega) (by omega)]
    have:bt (l'.take n) i=kf l' i:=by
     have h3:i<l'.length:=by omega
     simp[bt,kf,List.getElem?_take,hi',h3]
    rw[this]
   refine yX (zo (zD (xj (zD (zr ?_)))))
   refine zb ?_
   refine z8 ?_
   refine vT (O.loadR rfl rfl (by exact hget)) ?_
   refine zc ?_
   refine zc (zI (zo (zr ?_)))
   refine zb ?_
   refine wJ ?_
   refine vT (O.load rfl rfl mM (by exact a0o (k:=i) (by omega) (by omega))) ?_
   refine zb ?_
   refine vF ?_
   refine wJ ?_
   refine yM 1 rfl rfl rfl rfl rfl rfl (by rfl) (by rfl) (by exact Nat.ble_eq_true_of_le (by rw[a0b];omega)) (by exact a0M (k:=i) (by omega) _ (by omega)) (zI (xz (zo (zr ?_))))
   refine zA ?_
   refine zb (zI ?_)
   have e1:arB 16 (fun q=>if q=i then(if i<i then x' i^^^kf l' i else x' i)^^^kf l' i else if q<i then x' q^^^kf l' q else x' q)=arB 16 (fun q=>if q<i+1 then x' q^^^kf l' q else x' q):=a0c fun q _=>by
    rcases Nat.lt_trichotomy q i with h1|h1|h1
    ·rw[if_neg (by omega),if_pos h1,if_pos (by omega)]
    ·rw[if_pos h1,if_neg (by omega),if_pos (by omega),h1]
    rw[if_neg (by omega),if_neg (by omega),if_neg (by omega)]
   rw[e1]
   refine zq _ _ _ (by omega) (⟨i+1,by omega,rfl,rfl,rfl⟩)
  obtain rfl:i=n:=by omega
  have e2:arB 16 (fun q=>if q<i then x' q^^^kf l' q else x' q)=arB 16 (fun q=>x' q^^^kf l' q):=a0c fun q hq=>by
   by_cases h3:q<i
   ·rw[if_pos h3]
   rw[if_neg h3,h0D l' (by omega),q0K]
  rw[e2]
  refine wb ?_
  refine xY ?_
  refine x3 ?_
  refine xx (zo (zr ?_))
  refine vG ?_
  refine vq ?_
  refine vT (xH rfl Tryz.func179 rfl rfl rfl (h0M w _)) ?_
  refine ym 1 (zI (xz (zo (zr ?_))))
  refine zb ?_
  refine zb ?_
  refine zW ?_
  refine vT (O.minI rfl rfl rfl hmin) ?_
  refine vT (O.sliceFromB (k:=i) rfl rfl rfl (by rfl) (by omega)) ?_
  refine zc (zI ?_)
  rw[hdr]
  refine zq _ _ _ (by rw[List.length_drop];omega) (⟨l'.drop 16,enc w fun q=>x' q^^^kf l' q,by rw[←b0b hne];exact hx,by rw[List.length_drop];omega,rfl,rfl,rfl⟩)
 obtain rfl:l'= []:=List.eq_nil_of_length_eq_zero (by omega)
 rw[a0Q]at hx
 subst hx
 refine wb ?_
 refine xY ?_
 refine x3 ?_
 refine xx (zo (zD (zr ?_)))
 refine vq ?_
 refine ym 0 (zI (zo (xc ?_)))
 refine AQ.retCell (ys:=arB 16 (absorb w x l)) rfl rfl (by repeat(exact List.Mem.head _)) (List.take_of_length_le (Nat.le_of_eq (a0b _ _))) (a0b _ _) ⟨_,List.Sublist.cons _ (List.Sublist.cons_cons _ List.Sublist.slnil),.refl _⟩ ⟨rfl,rfl⟩
abbrev u0G (w:Nat→UInt8)(b:Nat):AV:= .fn (.func 198) [pt b,.rp [.rp (g0u w) 0] 0]
abbrev xB (b:Nat)(x:Nat→UInt8):HE:= .blk b 171 16 (arB 16 x)
theorem p0P (w:Nat→UInt8):Sp Tryz.prog 181 [.rp (g0u w) 0] [] (fun v Hn=> ∃b,v=u0G w b∧Hn= [xB b fun _=>0]):=by
 refine yN Tryz.func181 _ Tryz.ntmps181 (fun w0 R0=> ?_)
 refine zD (zr ?_)
 refine ye ?_
 intro B1
 refine zc (zI (zo (zD (zr ?_))))
 refine zd ?_
 intro B2
 refine zI (zo (zD (zr ?_)))
 refine AO.g ?_
 refine G.freezePtr 1 1 rfl rfl ?_
 refine AO.u ?_
 dsimp only[List.eraseIdx]
 refine vT (O.fn rfl rfl) ?_
 refine zc (zI (zo (xc ?_)))
 refine vu rfl rfl ⟨_,by repeat(first|exact List.Sublist.slnil|refine List.Sublist.cons_cons _ ?_),List.Perm.refl _⟩ (⟨B2,rfl,rfl⟩)
def j0D (aad nonce:List UInt8)(tag:Int):UInt8:=u8 (8*(tag/2-1)+14-(nonce.length:Int)+(if aad= []then 0 else 64))
def c0q (aad:List UInt8):List UInt8:=u8 ((aad.length:Int)/256)::u8 (aad.length:Int)::aad
def i0x (w:Nat→UInt8)(nonce aad plain:List UInt8)(tag:Int):Nat→UInt8:=
 absorb w (if aad= []then absorb w (fun _=>0) (fnB 16 (c0a (j0D aad nonce tag) nonce plain.length))else absorb w (absorb w (fun _=>0) (fnB 16 (c0a (j0D aad nonce tag) nonce plain.length))) (c0q aad)) plain
theorem o0g (f:Nat→UInt8):((arB 16 f).drop (0+0*1)).take ((16-0)*1)=arB 16 f:=by
 show((arB 16 f).drop 0).take 16=_
 rw[cO,List.take_of_length_le (Nat.le_of_eq (a0b _ _))]
theorem o0e (w:Nat→UInt8)(nonce aad plain:List UInt8)(tag:Int)(hn13:nonce.length≤13)(ht:4≤tag∧tag≤16)(ha:aad.length≤10000)(hp:plain.length≤10000):Sp Tryz.prog 159 [.rp (g0u w) 0,roB nonce,roB aad,roB plain,.val (.int .i64 tag)] [] (Is (.agg (arB 16 (i0x w nonce aad plain tag)))):=by
 refine yN Tryz.func159 _ Tryz.ntmps159 (fun w0 R0=> ?_)
 refine zD (zr ?_)
 refine zd ?_
 intro B1
 refine zI (zo (zD (zr ?_)))
 refine zb ?_
 refine AO.opN (xH rfl Tryz.func181 rfl rfl rfl (p0P w)) rfl rfl rfl ?_
 rintro _ _ ⟨B2,rfl,rfl⟩
 simp only[cA,cN]
 refine zc (zI (zo (zD (zr ?_))))
 refine zb ?_
 refine wI ?_
 refine yK ?_
 refine wE ?_
 refine zA ?_
 refine zb ?_
 refine zW ?_
 refine yK ?_
 refine xa ?_
 refine zc (zI (zo (zD (zD (zr ?_)))))
 refine zb ?_
 refine zW ?_
 refine yS (zI (zo ?_))
 obtain⟨z,hz⟩: ∃z,z=8*(tag/2-1)+14-(nonce.length:Int):=⟨_,rfl⟩
 have hzb:0≤z∧z≤127∧z+64≤255:=by omega
 rw[←hz]
 refine xL True [(1,_),(2,_),(3,_),(10,_),(11,_)] [(12,by8 (j0D aad nonce tag))] [xB B2 (fun _=>0),xB B1 (fun _=>0)] (fun h27=> ?_) (fun h27=> ?_) (fun hj=> ?_)<;>try(try simp only[vX]at h27)
 ·have e:u8 (((u8 z).toNat:Int)+64)=j0D aad nonce tag:=by
   have hne:aad≠ []:=fun e=>by rw[e]at h27;simp at h27
   rw[j0D,if_neg hne,←hz,c0d]
   congr 1;omega
  refine zr ?_
  refine zb ?_
  refine vT (O.add rfl rfl rfl (by exact c0Q)) ?_
  refine zc (zI ?_)
  rw[e]
  refine yj
 ·have e:u8 z=j0D aad nonce tag:=by
   have hne:aad= []:=List.eq_nil_of_length_eq_zero (by omega)
   rw[j0D,if_pos hne,←hz,Int.add_zero]
  refine yX ?_
  rw[e]
  refine yj
 dsimp only[cA,cN]
 refine zo ?_
 obtain⟨x1,hx1⟩: ∃x1,x1=absorb w (fun _=>0) (fnB 16 (c0a (j0D aad nonce tag) nonce plain.length)):=⟨_,rfl⟩
 have hc1:=g0c w B2 (fun _=>0) (fnB 16 (c0a (j0D aad nonce tag) nonce plain.length)) (by rw[a0G];omega)
 rw[←hx1]at hc1
 have hc2:=g0c w B2 x1 (c0q aad) (by simp only[c0q,cL];omega)
 obtain⟨x2,hx2⟩: ∃x2,x2=if aad= []then x1 else absorb w x1 (c0q aad):=⟨_,rfl⟩
 have hc3:=g0c w B2 x2 plain (by omega)
 refine zD (zr ?_)
 refine zb ?_
 refine zb ?_
 refine zb ?_
 refine zW ?_
 refine vT (xH rfl Tryz.func180 rfl rfl rfl (g0f _ nonce _ hn13 ⟨by omega,by omega⟩)) ?_
 refine zd ?_
 intro B3
 refine xf 0 ?_
 refine AO.g ?_
 refine G.freezePtr 0 13 rfl rfl ?_
 refine AO.u ?_
 dsimp only[List.eraseIdx]
 refine zI (zo (zD (zr ?_)))
 refine zb ?_
 refine vT (O.sliceArrRK (p:=0) rfl rfl rfl rfl (by rfl) (by rfl) ⟨by omega,by omega⟩ (by omega) (by(unfold maxLen;omega)) (by exact o0g _)) ?_
 refine AO.callMV1 (i:=0) rfl rfl rfl Tryz.func198 rfl rfl rfl rfl rfl rfl hc1 (by(dsimp only[List.set,cA,cN,List.take,List.drop];done)) (zI (zo (zD (zD (zr ?_)))))
 refine zb ?_
 refine zW ?_
 refine yS (zI (zo ?_))
 refine xL True [(3,_),(10,_),(11,_)] [] [xB B2 x2,xB B1 (fun _=>0)] (fun h40=> ?_) (fun h40=> ?_) (fun hj=> ?_)<;>try(try simp only[vX]at h40)
 ·have hne:aad≠ []:=fun e=>by rw[e]at h40;simp at h40
  have e2:absorb w x1 (c0q aad)=x2:=by rw[hx2,if_neg hne]
  have er:roB (c0q aad)=AV.ro false (2+aad.length) (AV.val (.int .u8 ((u8 ((aad.length:Int)/256)).toNat:Int))::AV.val (.int .u8 ((u8 (aad.length:Int)).toNat:Int))::a0a aad):=(b0l (by simp only[c0q,cL];omega) rfl).symm
  rw[e2,er]at hc2
  refine zr ?_
  refine zb ?_
  refine zb ?_
  refine zW ?_
  refine vd ?_
  refine xa ?_
  refine zb ?_
  refine zW ?_
  refine xa ?_
  refine y6 ?_
  intro B4
  refine AO.g ?_
  refine xN B4 2 2 0 rfl rfl rfl (Nat.le_refl _) ?_
  refine AO.u ?_
  dsimp only[List.set]
  refine zb ?_
  refine zH 0 ?_
  intro V5 hV5
  refine AO.g ?_
  refine yH 0 [51] ?_
  refine AO.u ?_
  dsimp only[List.map,List.eraseIdx,cA,cN]
  refine AO.callMV1 (i:=0) rfl rfl rfl Tryz.func198 rfl rfl rfl rfl rfl rfl hc2 (by(dsimp only[List.set,cA,cN,List.take,List.drop];done)) (zI ?_)
  refine vb
 ·have hne:aad= []:=List.eq_nil_of_length_eq_zero (by omega)
  have e2:x1=x2:=by rw[hx2,if_pos hne]
  refine yX ?_
  rw[e2]
  refine wR
 dsimp only[cA,cN]
 refine zo ?_
 have hm:i0x w nonce aad plain tag=absorb w x2 plain:=by rw[i0x,hx2,hx1]
 refine zD (zr ?_)
 refine zb ?_
 refine zb ?_
 refine AO.callMV1 (i:=0) rfl rfl rfl Tryz.func198 rfl rfl rfl rfl rfl rfl hc3 (by(dsimp only[List.set,cA,cN,List.take,List.drop];done)) ?_
 refine ym 1 (zI (zo (xc ?_)))
 refine AQ.retCell (ys:=arB 16 (absorb w x2 plain)) rfl rfl mM (List.take_of_length_le (Nat.le_of_eq (a0b _ _))) (a0b _ _) nS ⟨by rw[hm],rfl⟩
end Go.Proofs.YtojomcdjcpmnkaaGreat.By
