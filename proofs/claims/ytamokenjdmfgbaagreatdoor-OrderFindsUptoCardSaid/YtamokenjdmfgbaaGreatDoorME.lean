/- What the small functions of the program answer; the store of functions and types; no condition beyond bounds on lengths. -/
import Derived.Test.YtamokenjdmfgbaaGreatDoorProg
import Derived.Test.YtamokenjdmfgbaaGreatDoorMB
import Derived.Test.YtamokenjdmfgbaaGreatDoorMC
import Derived.KernelRfl
namespace Go.Am
open Go.Proofs
noncomputable def infoT:T TypeInfo:=.node (some Tryz.t0) (.node (some Tryz.t1) (.node (some Tryz.t3) (.node (some Tryz.t7) (.node (some Tryz.t15) (.node (some Tryz.t31) (.node (some Tryz.t63) (.node (some Tryz.t127) (.node (some Tryz.t255) .nil .nil) (.node (some Tryz.t383) .nil .nil)) (.node (some Tryz.t191) (.node (some Tryz.t319) .nil .nil) (.node (some Tryz.t447) .nil .nil))) (.node (some Tryz.t95) (.node (some Tryz.t159) (.node (some Tryz.t287) .nil .nil) (.node (some Tryz.t415) .nil .nil)) (.node (some Tryz.t223) (.node (some Tryz.t351) .nil .nil) .nil))) (.node (some Tryz.t47) (.node (some Tryz.t79) (.node (some Tryz.t143) (.node (some Tryz.t271) .nil .nil) (.node (some Tryz.t399) .nil .nil)) (.node (some Tryz.t207) (.node (some Tryz.t335) .nil .nil) .nil)) (.node (some Tryz.t111) (.node (some Tryz.t175) (.node (some Tryz.t303) .nil .nil) (.node (some Tryz.t431) .nil .nil)) (.node (some Tryz.t239) (.node (some Tryz.t367) .nil .nil) .nil)))) (.node (some Tryz.t23) (.node (some Tryz.t39) (.node (some Tryz.t71) (.node (some Tryz.t135) (.node (some Tryz.t263) .nil .nil) (.node (some Tryz.t391) .nil .nil)) (.node (some Tryz.t199) (.node (some Tryz.t327) .nil .nil) (.node (some Tryz.t455) .nil .nil))) (.node (some Tryz.t103) (.node (some Tryz.t167) (.node (some Tryz.t295) .nil .nil) (.node (some Tryz.t423) .nil .nil)) (.node (some Tryz.t231) (.node (some Tryz.t359) .nil .nil) .nil))) (.node (some Tryz.t55) (.node (some Tryz.t87) (.node (some Tryz.t151) (.node (some Tryz.t279) .nil .nil) (.node (some Tryz.t407) .nil .nil)) (.node (some Tryz.t215) (.node (some Tryz.t343) .nil .nil) .nil)) (.node (some Tryz.t119) (.node (some Tryz.t183) (.node (some Tryz.t311) .nil .nil) (.node (some Tryz.t439) .nil .nil)) (.node (some Tryz.t247) (.node (some Tryz.t375) .nil .nil) .nil))))) (.node (some Tryz.t11) (.node (some Tryz.t19) (.node (some Tryz.t35) (.node (some Tryz.t67) (.node (some Tryz.t131) (.node (some Tryz.t259) .nil .nil) (.node (some Tryz.t387) .nil .nil)) (.node (some Tryz.t195) (.node (some Tryz.t323) .nil .nil) (.node (some Tryz.t451) .nil .nil))) (.node (some Tryz.t99) (.node (some Tryz.t163) (.node (some Tryz.t291) .nil .nil) (.node (some Tryz.t419) .nil .nil)) (.node (some Tryz.t227) (.node (some Tryz.t355) .nil .nil) .nil))) (.node (some Tryz.t51) (.node (some Tryz.t83) (.node (some Tryz.t147) (.node (some Tryz.t275) .nil .nil) (.node (some Tryz.t403) .nil .nil)) (.node (some Tryz.t211) (.node (some Tryz.t339) .nil .nil) .nil)) (.node (some Tryz.t115) (.node (some Tryz.t179) (.node (some Tryz.t307) .nil .nil) (.node (some Tryz.t435) .nil .nil)) (.node (some Tryz.t243) (.node (some Tryz.t371) .nil .nil) .nil)))) (.node (some Tryz.t27) (.node (some Tryz.t43) (.node (some Tryz.t75) (.node (some Tryz.t139) (.node (some Tryz.t267) .nil .nil) (.node (some Tryz.t395) .nil .nil)) (.node (some Tryz.t203) (.node (some Tryz.t331) .nil .nil) .nil)) (.node (some Tryz.t107) (.node (some Tryz.t171) (.node (some Tryz.t299) .nil .nil) (.node (some Tryz.t427) .nil .nil)) (.node (some Tryz.t235) (.node (some Tryz.t363) .nil .nil) .nil))) (.node (some Tryz.t59) (.node (some Tryz.t91) (.node (some Tryz.t155) (.node (some Tryz.t283) .nil .nil) (.node (some Tryz.t411) .nil .nil)) (.node (some Tryz.t219) (.node (some Tryz.t347) .nil .nil) .nil)) (.node (some Tryz.t123) (.node (some Tryz.t187) (.node (some Tryz.t315) .nil .nil) (.node (some Tryz.t443) .nil .nil)) (.node (some Tryz.t251) (.node (some Tryz.t379) .nil .nil) .nil)))))) (.node (some Tryz.t5) (.node (some Tryz.t9) (.node (some Tryz.t17) (.node (some Tryz.t33) (.node (some Tryz.t65) (.node (some Tryz.t129) (.node (some Tryz.t257) .nil .nil) (.node (some Tryz.t385) .nil .nil)) (.node (some Tryz.t193) (.node (some Tryz.t321) .nil .nil) (.node (some Tryz.t449) .nil .nil))) (.node (some Tryz.t97) (.node (some Tryz.t161) (.node (some Tryz.t289) .nil .nil) (.node (some Tryz.t417) .nil .nil)) (.node (some Tryz.t225) (.node (some Tryz.t353) .nil .nil) .nil))) (.node (some Tryz.t49) (.node (some Tryz.t81) (.node (some Tryz.t145) (.node (some Tryz.t273) .nil .nil) (.node (some Tryz.t401) .nil .nil)) (.node (some Tryz.t209) (.node (some Tryz.t337) .nil .nil) .nil)) (.node (some Tryz.t113) (.node (some Tryz.t177) (.node (some Tryz.t305) .nil .nil) (.node (some Tryz.t433) .nil .nil)) (.node (some Tryz.t241) (.node (some Tryz.t369) .nil .nil) .nil)))) (.node (some Tryz.t25) (.node (some Tryz.t41) (.node (some Tryz.t73) (.node (some Tryz.t137) (.node (some Tryz.t265) .nil .nil) (.node (some Tryz.t393) .nil .nil)) (.node (some Tryz.t201) (.node (some Tryz.t329) .nil .nil) (.node (some Tryz.t457) .nil .nil))) (.node (some Tryz.t105) (.node (some Tryz.t169) (.node (some Tryz.t297) .nil .nil) (.node (some Tryz.t425) .nil .nil)) (.node (some Tryz.t233) (.node (some Tryz.t361) .nil .nil) .nil))) (.node (some Tryz.t57) (.node (some Tryz.t89) (.node (some Tryz.t153) (.node (some Tryz.t281) .nil .nil) (.node (some Tryz.t409) .nil .nil)) (.node (some Tryz.t217) (.node (some Tryz.t345) .nil .nil) .nil)) (.node (some Tryz.t121) (.node (some Tryz.t185) (.node (some Tryz.t313) .nil .nil) (.node (some Tryz.t441) .nil .nil)) (.node (some Tryz.t249) (.node (some Tryz.t377) .nil .nil) .nil))))) (.node (some Tryz.t13) (.node (some Tryz.t21) (.node (some Tryz.t37) (.node (some Tryz.t69) (.node (some Tryz.t133) (.node (some Tryz.t261) .nil .nil) (.node (some Tryz.t389) .nil .nil)) (.node (some Tryz.t197) (.node (some Tryz.t325) .nil .nil) (.node (some Tryz.t453) .nil .nil))) (.node (some Tryz.t101) (.node (some Tryz.t165) (.node (some Tryz.t293) .nil .nil) (.node (some Tryz.t421) .nil .nil)) (.node (some Tryz.t229) (.node (some Tryz.t357) .nil .nil) .nil))) (.node (some Tryz.t53) (.node (some Tryz.t85) (.node (some Tryz.t149) (.node (some Tryz.t277) .nil .nil) (.node (some Tryz.t405) .nil .nil)) (.node (some Tryz.t213) (.node (some Tryz.t341) .nil .nil) .nil)) (.node (some Tryz.t117) (.node (some Tryz.t181) (.node (some Tryz.t309) .nil .nil) (.node (some Tryz.t437) .nil .nil)) (.node (some Tryz.t245) (.node (some Tryz.t373) .nil .nil) .nil)))) (.node (some Tryz.t29) (.node (some Tryz.t45) (.node (some Tryz.t77) (.node (some Tryz.t141) (.node (some Tryz.t269) .nil .nil) (.node (some Tryz.t397) .nil .nil)) (.node (some Tryz.t205) (.node (some Tryz.t333) .nil .nil) .nil)) (.node (some Tryz.t109) (.node (some Tryz.t173) (.node (some Tryz.t301) .nil .nil) (.node (some Tryz.t429) .nil .nil)) (.node (some Tryz.t237) (.node (some Tryz.t365) .nil .nil) .nil))) (.node (some Tryz.t61) (.node (some Tryz.t93) (.node (some Tryz.t157) (.node (some Tryz.t285) .nil .nil) (.node (some Tryz.t413) .nil .nil)) (.node (some Tryz.t221) (.node (some Tryz.t349) .nil .nil) .nil)) (.node (some Tryz.t125) (.node (some Tryz.t189) (.node (some Tryz.t317) .nil .nil) (.node (some Tryz.t445) .nil .nil)) (.node (some Tryz.t253) (.node (some Tryz.t381) .nil .nil) .nil))))))) (.node (some Tryz.t2) (.node (some Tryz.t4) (.node (some Tryz.t8) (.node (some Tryz.t16) (.node (some Tryz.t32) (.node (some Tryz.t64) (.node (some Tryz.t128) (.node (some Tryz.t256) .nil .nil) (.node (some Tryz.t384) .nil .nil)) (.node (some Tryz.t192) (.node (some Tryz.t320) .nil .nil) (.node (some Tryz.t448) .nil .nil))) (.node (some Tryz.t96) (.node (some Tryz.t160) (.node (some Tryz.t288) .nil .nil) (.node (some Tryz.t416) .nil .nil)) (.node (some Tryz.t224) (.node (some Tryz.t352) .nil .nil) .nil))) (.node (some Tryz.t48) (.node (some Tryz.t80) (.node (some Tryz.t144) (.node (some Tryz.t272) .nil .nil) (.node (some Tryz.t400) .nil .nil)) (.node (some Tryz.t208) (.node (some Tryz.t336) .nil .nil) .nil)) (.node (some Tryz.t112) (.node (some Tryz.t176) (.node (some Tryz.t304) .nil .nil) (.node (some Tryz.t432) .nil .nil)) (.node (some Tryz.t240) (.node (some Tryz.t368) .nil .nil) .nil)))) (.node (some Tryz.t24) (.node (some Tryz.t40) (.node (some Tryz.t72) (.node (some Tryz.t136) (.node (some Tryz.t264) .nil .nil) (.node (some Tryz.t392) .nil .nil)) (.node (some Tryz.t200) (.node (some Tryz.t328) .nil .nil) (.node (some Tryz.t456) .nil .nil))) (.node (some Tryz.t104) (.node (some Tryz.t168) (.node (some Tryz.t296) .nil .nil) (.node (some Tryz.t424) .nil .nil)) (.node (some Tryz.t232) (.node (some Tryz.t360) .nil .nil) .nil))) (.node (some Tryz.t56) (.node (some Tryz.t88) (.node (some Tryz.t152) (.node (some Tryz.t280) .nil .nil) (.node (some Tryz.t408) .nil .nil)) (.node (some Tryz.t216) (.node (some Tryz.t344) .nil .nil) .nil)) (.node (some Tryz.t120) (.node (some Tryz.t184) (.node (some Tryz.t312) .nil .nil) (.node (some Tryz.t440) .nil .nil)) (.node (some Tryz.t248) (.node (some Tryz.t376) .nil .nil) .nil))))) (.node (some Tryz.t12) (.node (some Tryz.t20) (.node (some Tryz.t36) (.node (some Tryz.t68) (.node (some Tryz.t132) (.node (some Tryz.t260) .nil .nil) (.node (some Tryz.t388) .nil .nil)) (.node (some Tryz.t196) (.node (some Tryz.t324) .nil .nil) (.node (some Tryz.t452) .nil .nil))) (.node (some Tryz.t100) (.node (some Tryz.t164) (.node (some Tryz.t292) .nil .nil) (.node (some Tryz.t420) .nil .nil)) (.node (some Tryz.t228) (.node (some Tryz.t356) .nil .nil) .nil))) (.node (some Tryz.t52) (.node (some Tryz.t84) (.node (some Tryz.t148) (.node (some Tryz.t276) .nil .nil) (.node (some Tryz.t404) .nil .nil)) (.node (some Tryz.t212) (.node (some Tryz.t340) .nil .nil) .nil)) (.node (some Tryz.t116) (.node (some Tryz.t180) (.node (some Tryz.t308) .nil .nil) (.node (some Tryz.t436) .nil .nil)) (.node (some Tryz.t244) (.node (some Tryz.t372) .nil .nil) .nil)))) (.node (some Tryz.t28) (.node (some Tryz.t44) (.node (some Tryz.t76) (.node (some Tryz.t140) (.node (some Tryz.t268) .nil .nil) (.node (some Tryz.t396) .nil .nil)) (.node (some Tryz.t204) (.node (some Tryz.t332) .nil .nil) .nil)) (.node (some Tryz.t108) (.node (some Tryz.t172) (.node (some Tryz.t300) .nil .nil) (.node (some Tryz.t428) .nil .nil)) (.node (some Tryz.t236) (.node (some Tryz.t364) .nil .nil) .nil))) (.node (some Tryz.t60) (.node (some Tryz.t92) (.node (some Tryz.t156) (.node (some Tryz.t284) .nil .nil) (.node (some Tryz.t412) .nil .nil)) (.node (some Tryz.t220) (.node (some Tryz.t348) .nil .nil) .nil)) (.node (some Tryz.t124) (.node (some Tryz.t188) (.node (some Tryz.t316) .nil .nil) (.node (some Tryz.t444) .nil .nil)) (.node (some Tryz.t252) (.node (some Tryz.t380) .nil .nil) .nil)))))) (.node (some Tryz.t6) (.node (some Tryz.t10) (.node (some Tryz.t18) (.node (some Tryz.t34) (.node (some Tryz.t66) (.node (some Tryz.t130) (.node (some Tryz.t258) .nil .nil) (.node (some Tryz.t386) .nil .nil)) (.node (some Tryz.t194) (.node (some Tryz.t322) .nil .nil) (.node (some Tryz.t450) .nil .nil))) (.node (some Tryz.t98) (.node (some Tryz.t162) (.node (some Tryz.t290) .nil .nil) (.node (some Tryz.t418) .nil .nil)) (.node (some Tryz.t226) (.node (some Tryz.t354) .nil .nil) .nil))) (.node (some Tryz.t50) (.node (some Tryz.t82) (.node (some Tryz.t146) (.node (some Tryz.t274) .nil .nil) (.node (some Tryz.t402) .nil .nil)) (.node (some Tryz.t210) (.node (some Tryz.t338) .nil .nil) .nil)) (.node (some Tryz.t114) (.node (some Tryz.t178) (.node (some Tryz.t306) .nil .nil) (.node (some Tryz.t434) .nil .nil)) (.node (some Tryz.t242) (.node (some Tryz.t370) .nil .nil) .nil)))) (.node (some Tryz.t26) (.node (some Tryz.t42) (.node (some Tryz.t74) (.node (some Tryz.t138) (.node (some Tryz.t266) .nil .nil) (.node (some Tryz.t394) .nil .nil)) (.node (some Tryz.t202) (.node (some Tryz.t330) .nil .nil) (.node (some Tryz.t458) .nil .nil))) (.node (some Tryz.t106) (.node (some Tryz.t170) (.node (some Tryz.t298) .nil .nil) (.node (some Tryz.t426) .nil .nil)) (.node (some Tryz.t234) (.node (some Tryz.t362) .nil .nil) .nil))) (.node (some Tryz.t58) (.node (some Tryz.t90) (.node (some Tryz.t154) (.node (some Tryz.t282) .nil .nil) (.node (some Tryz.t410) .nil .nil)) (.node (some Tryz.t218) (.node (some Tryz.t346) .nil .nil) .nil)) (.node (some Tryz.t122) (.node (some Tryz.t186) (.node (some Tryz.t314) .nil .nil) (.node (some Tryz.t442) .nil .nil)) (.node (some Tryz.t250) (.node (some Tryz.t378) .nil .nil) .nil))))) (.node (some Tryz.t14) (.node (some Tryz.t22) (.node (some Tryz.t38) (.node (some Tryz.t70) (.node (some Tryz.t134) (.node (some Tryz.t262) .nil .nil) (.node (some Tryz.t390) .nil .nil)) (.node (some Tryz.t198) (.node (some Tryz.t326) .nil .nil) (.node (some Tryz.t454) .nil .nil))) (.node (some Tryz.t102) (.node (some Tryz.t166) (.node (some Tryz.t294) .nil .nil) (.node (some Tryz.t422) .nil .nil)) (.node (some Tryz.t230) (.node (some Tryz.t358) .nil .nil) .nil))) (.node (some Tryz.t54) (.node (some Tryz.t86) (.node (some Tryz.t150) (.node (some Tryz.t278) .nil .nil) (.node (some Tryz.t406) .nil .nil)) (.node (some Tryz.t214) (.node (some Tryz.t342) .nil .nil) .nil)) (.node (some Tryz.t118) (.node (some Tryz.t182) (.node (some Tryz.t310) .nil .nil) (.node (some Tryz.t438) .nil .nil)) (.node (some Tryz.t246) (.node (some Tryz.t374) .nil .nil) .nil)))) (.node (some Tryz.t30) (.node (some Tryz.t46) (.node (some Tryz.t78) (.node (some Tryz.t142) (.node (some Tryz.t270) .nil .nil) (.node (some Tryz.t398) .nil .nil)) (.node (some Tryz.t206) (.node (some Tryz.t334) .nil .nil) .nil)) (.node (some Tryz.t110) (.node (some Tryz.t174) (.node (some Tryz.t302) .nil .nil) (.node (some Tryz.t430) .nil .nil)) (.node (some Tryz.t238) (.node (some Tryz.t366) .nil .nil) .nil))) (.node (some Tryz.t62) (.node (some Tryz.t94) (.node (some Tryz.t158) (.node (some Tryz.t286) .nil .nil) (.node (some Tryz.t414) .nil .nil)) (.node (some Tryz.t222) (.node (some Tryz.t350) .nil .nil) .nil)) (.node (some Tryz.t126) (.node (some Tryz.t190) (.node (some Tryz.t318) .nil .nil) (.node (some Tryz.t446) .nil .nil)) (.node (some Tryz.t254) (.node (some Tryz.t382) .nil .nil) .nil)))))))
noncomputable def funcT:T Func:=.node (some Tryz.f0) (.node (some Tryz.f1) (.node (some Tryz.f3) (.node (some Tryz.f7) (.node (some Tryz.f15) (.node (some Tryz.f31) (.node (some Tryz.f63) (.node (some Tryz.f127) (.node (some Tryz.f255) .nil .nil) (.node (some Tryz.f383) .nil .nil)) (.node (some Tryz.f191) (.node (some Tryz.f319) .nil .nil) .nil)) (.node (some Tryz.f95) (.node (some Tryz.f159) (.node (some Tryz.f287) .nil .nil) .nil) (.node (some Tryz.f223) (.node (some Tryz.f351) .nil .nil) .nil))) (.node (some Tryz.f47) (.node (some Tryz.f79) (.node (some Tryz.f143) (.node (some Tryz.f271) .nil .nil) .nil) (.node (some Tryz.f207) (.node (some Tryz.f335) .nil .nil) .nil)) (.node (some Tryz.f111) (.node (some Tryz.f175) (.node (some Tryz.f303) .nil .nil) .nil) (.node (some Tryz.f239) (.node (some Tryz.f367) .nil .nil) .nil)))) (.node (some Tryz.f23) (.node (some Tryz.f39) (.node (some Tryz.f71) (.node (some Tryz.f135) (.node (some Tryz.f263) .nil .nil) .nil) (.node (some Tryz.f199) (.node (some Tryz.f327) .nil .nil) .nil)) (.node (some Tryz.f103) (.node (some Tryz.f167) (.node (some Tryz.f295) .nil .nil) .nil) (.node (some Tryz.f231) (.node (some Tryz.f359) .nil .nil) .nil))) (.node (some Tryz.f55) (.node (some Tryz.f87) (.node (some Tryz.f151) (.node (some Tryz.f279) .nil .nil) .nil) (.node (some Tryz.f215) (.node (some Tryz.f343) .nil .nil) .nil)) (.node (some Tryz.f119) (.node (some Tryz.f183) (.node (some Tryz.f311) .nil .nil) .nil) (.node (some Tryz.f247) (.node (some Tryz.f375) .nil .nil) .nil))))) (.node (some Tryz.f11) (.node (some Tryz.f19) (.node (some Tryz.f35) (.node (some Tryz.f67) (.node (some Tryz.f131) (.node (some Tryz.f259) .nil .nil) (.node (some Tryz.f387) .nil .nil)) (.node (some Tryz.f195) (.node (some Tryz.f323) .nil .nil) .nil)) (.node (some Tryz.f99) (.node (some Tryz.f163) (.node (some Tryz.f291) .nil .nil) .nil) (.node (some Tryz.f227) (.node (some Tryz.f355) .nil .nil) .nil))) (.node (some Tryz.f51) (.node (some Tryz.f83) (.node (some Tryz.f147) (.node (some Tryz.f275) .nil .nil) .nil) (.node (some Tryz.f211) (.node (some Tryz.f339) .nil .nil) .nil)) (.node (some Tryz.f115) (.node (some Tryz.f179) (.node (some Tryz.f307) .nil .nil) .nil) (.node (some Tryz.f243) (.node (some Tryz.f371) .nil .nil) .nil)))) (.node (some Tryz.f27) (.node (some Tryz.f43) (.node (some Tryz.f75) (.node (some Tryz.f139) (.node (some Tryz.f267) .nil .nil) .nil) (.node (some Tryz.f203) (.node (some Tryz.f331) .nil .nil) .nil)) (.node (some Tryz.f107) (.node (some Tryz.f171) (.node (some Tryz.f299) .nil .nil) .nil) (.node (some Tryz.f235) (.node (some Tryz.f363) .nil .nil) .nil))) (.node (some Tryz.f59) (.node (some Tryz.f91) (.node (some Tryz.f155) (.node (some Tryz.f283) .nil .nil) .nil) (.node (some Tryz.f219) (.node (some Tryz.f347) .nil .nil) .nil)) (.node (some Tryz.f123) (.node (some Tryz.f187) (.node (some Tryz.f315) .nil .nil) .nil) (.node (some Tryz.f251) (.node (some Tryz.f379) .nil .nil) .nil)))))) (.node (some Tryz.f5) (.node (some Tryz.f9) (.node (some Tryz.f17) (.node (some Tryz.f33) (.node (some Tryz.f65) (.node (some Tryz.f129) (.node (some Tryz.f257) .nil .nil) (.node (some Tryz.f385) .nil .nil)) (.node (some Tryz.f193) (.node (some Tryz.f321) .nil .nil) .nil)) (.node (some Tryz.f97) (.node (some Tryz.f161) (.node (some Tryz.f289) .nil .nil) .nil) (.node (some Tryz.f225) (.node (some Tryz.f353) .nil .nil) .nil))) (.node (some Tryz.f49) (.node (some Tryz.f81) (.node (some Tryz.f145) (.node (some Tryz.f273) .nil .nil) .nil) (.node (some Tryz.f209) (.node (some Tryz.f337) .nil .nil) .nil)) (.node (some Tryz.f113) (.node (some Tryz.f177) (.node (some Tryz.f305) .nil .nil) .nil) (.node (some Tryz.f241) (.node (some Tryz.f369) .nil .nil) .nil)))) (.node (some Tryz.f25) (.node (some Tryz.f41) (.node (some Tryz.f73) (.node (some Tryz.f137) (.node (some Tryz.f265) .nil .nil) .nil) (.node (some Tryz.f201) (.node (some Tryz.f329) .nil .nil) .nil)) (.node (some Tryz.f105) (.node (some Tryz.f169) (.node (some Tryz.f297) .nil .nil) .nil) (.node (some Tryz.f233) (.node (some Tryz.f361) .nil .nil) .nil))) (.node (some Tryz.f57) (.node (some Tryz.f89) (.node (some Tryz.f153) (.node (some Tryz.f281) .nil .nil) .nil) (.node (some Tryz.f217) (.node (some Tryz.f345) .nil .nil) .nil)) (.node (some Tryz.f121) (.node (some Tryz.f185) (.node (some Tryz.f313) .nil .nil) .nil) (.node (some Tryz.f249) (.node (some Tryz.f377) .nil .nil) .nil))))) (.node (some Tryz.f13) (.node (some Tryz.f21) (.node (some Tryz.f37) (.node (some Tryz.f69) (.node (some Tryz.f133) (.node (some Tryz.f261) .nil .nil) .nil) (.node (some Tryz.f197) (.node (some Tryz.f325) .nil .nil) .nil)) (.node (some Tryz.f101) (.node (some Tryz.f165) (.node (some Tryz.f293) .nil .nil) .nil) (.node (some Tryz.f229) (.node (some Tryz.f357) .nil .nil) .nil))) (.node (some Tryz.f53) (.node (some Tryz.f85) (.node (some Tryz.f149) (.node (some Tryz.f277) .nil .nil) .nil) (.node (some Tryz.f213) (.node (some Tryz.f341) .nil .nil) .nil)) (.node (some Tryz.f117) (.node (some Tryz.f181) (.node (some Tryz.f309) .nil .nil) .nil) (.node (some Tryz.f245) (.node (some Tryz.f373) .nil .nil) .nil)))) (.node (some Tryz.f29) (.node (some Tryz.f45) (.node (some Tryz.f77) (.node (some Tryz.f141) (.node (some Tryz.f269) .nil .nil) .nil) (.node (some Tryz.f205) (.node (some Tryz.f333) .nil .nil) .nil)) (.node (some Tryz.f109) (.node (some Tryz.f173) (.node (some Tryz.f301) .nil .nil) .nil) (.node (some Tryz.f237) (.node (some Tryz.f365) .nil .nil) .nil))) (.node (some Tryz.f61) (.node (some Tryz.f93) (.node (some Tryz.f157) (.node (some Tryz.f285) .nil .nil) .nil) (.node (some Tryz.f221) (.node (some Tryz.f349) .nil .nil) .nil)) (.node (some Tryz.f125) (.node (some Tryz.f189) (.node (some Tryz.f317) .nil .nil) .nil) (.node (some Tryz.f253) (.node (some Tryz.f381) .nil .nil) .nil))))))) (.node (some Tryz.f2) (.node (some Tryz.f4) (.node (some Tryz.f8) (.node (some Tryz.f16) (.node (some Tryz.f32) (.node (some Tryz.f64) (.node (some Tryz.f128) (.node (some Tryz.f256) .nil .nil) (.node (some Tryz.f384) .nil .nil)) (.node (some Tryz.f192) (.node (some Tryz.f320) .nil .nil) .nil)) (.node (some Tryz.f96) (.node (some Tryz.f160) (.node (some Tryz.f288) .nil .nil) .nil) (.node (some Tryz.f224) (.node (some Tryz.f352) .nil .nil) .nil))) (.node (some Tryz.f48) (.node (some Tryz.f80) (.node (some Tryz.f144) (.node (some Tryz.f272) .nil .nil) .nil) (.node (some Tryz.f208) (.node (some Tryz.f336) .nil .nil) .nil)) (.node (some Tryz.f112) (.node (some Tryz.f176) (.node (some Tryz.f304) .nil .nil) .nil) (.node (some Tryz.f240) (.node (some Tryz.f368) .nil .nil) .nil)))) (.node (some Tryz.f24) (.node (some Tryz.f40) (.node (some Tryz.f72) (.node (some Tryz.f136) (.node (some Tryz.f264) .nil .nil) .nil) (.node (some Tryz.f200) (.node (some Tryz.f328) .nil .nil) .nil)) (.node (some Tryz.f104) (.node (some Tryz.f168) (.node (some Tryz.f296) .nil .nil) .nil) (.node (some Tryz.f232) (.node (some Tryz.f360) .nil .nil) .nil))) (.node (some Tryz.f56) (.node (some Tryz.f88) (.node (some Tryz.f152) (.node (some Tryz.f280) .nil .nil) .nil) (.node (some Tryz.f216) (.node (some Tryz.f344) .nil .nil) .nil)) (.node (some Tryz.f120) (.node (some Tryz.f184) (.node (some Tryz.f312) .nil .nil) .nil) (.node (some Tryz.f248) (.node (some Tryz.f376) .nil .nil) .nil))))) (.node (some Tryz.f12) (.node (some Tryz.f20) (.node (some Tryz.f36) (.node (some Tryz.f68) (.node (some Tryz.f132) (.node (some Tryz.f260) .nil .nil) (.node (some Tryz.f388) .nil .nil)) (.node (some Tryz.f196) (.node (some Tryz.f324) .nil .nil) .nil)) (.node (some Tryz.f100) (.node (some Tryz.f164) (.node (some Tryz.f292) .nil .nil) .nil) (.node (some Tryz.f228) (.node (some Tryz.f356) .nil .nil) .nil))) (.node (some Tryz.f52) (.node (some Tryz.f84) (.node (some Tryz.f148) (.node (some Tryz.f276) .nil .nil) .nil) (.node (some Tryz.f212) (.node (some Tryz.f340) .nil .nil) .nil)) (.node (some Tryz.f116) (.node (some Tryz.f180) (.node (some Tryz.f308) .nil .nil) .nil) (.node (some Tryz.f244) (.node (some Tryz.f372) .nil .nil) .nil)))) (.node (some Tryz.f28) (.node (some Tryz.f44) (.node (some Tryz.f76) (.node (some Tryz.f140) (.node (some Tryz.f268) .nil .nil) .nil) (.node (some Tryz.f204) (.node (some Tryz.f332) .nil .nil) .nil)) (.node (some Tryz.f108) (.node (some Tryz.f172) (.node (some Tryz.f300) .nil .nil) .nil) (.node (some Tryz.f236) (.node (some Tryz.f364) .nil .nil) .nil))) (.node (some Tryz.f60) (.node (some Tryz.f92) (.node (some Tryz.f156) (.node (some Tryz.f284) .nil .nil) .nil) (.node (some Tryz.f220) (.node (some Tryz.f348) .nil .nil) .nil)) (.node (some Tryz.f124) (.node (some Tryz.f188) (.node (some Tryz.f316) .nil .nil) .nil) (.node (some Tryz.f252) (.node (some Tryz.f380) .nil .nil) .nil)))))) (.node (some Tryz.f6) (.node (some Tryz.f10) (.node (some Tryz.f18) (.node (some Tryz.f34) (.node (some Tryz.f66) (.node (some Tryz.f130) (.node (some Tryz.f258) .nil .nil) (.node (some Tryz.f386) .nil .nil)) (.node (some Tryz.f194) (.node (some Tryz.f322) .nil .nil) .nil)) (.node (some Tryz.f98) (.node (some Tryz.f162) (.node (some Tryz.f290) .nil .nil) .nil) (.node (some Tryz.f226) (.node (some Tryz.f354) .nil .nil) .nil))) (.node (some Tryz.f50) (.node (some Tryz.f82) (.node (some Tryz.f146) (.node (some Tryz.f274) .nil .nil) .nil) (.node (some Tryz.f210) (.node (some Tryz.f338) .nil .nil) .nil)) (.node (some Tryz.f114) (.node (some Tryz.f178) (.node (some Tryz.f306) .nil .nil) .nil) (.node (some Tryz.f242) (.node (some Tryz.f370) .nil .nil) .nil)))) (.node (some Tryz.f26) (.node (some Tryz.f42) (.node (some Tryz.f74) (.node (some Tryz.f138) (.node (some Tryz.f266) .nil .nil) .nil) (.node (some Tryz.f202) (.node (some Tryz.f330) .nil .nil) .nil)) (.node (some Tryz.f106) (.node (some Tryz.f170) (.node (some Tryz.f298) .nil .nil) .nil) (.node (some Tryz.f234) (.node (some Tryz.f362) .nil .nil) .nil))) (.node (some Tryz.f58) (.node (some Tryz.f90) (.node (some Tryz.f154) (.node (some Tryz.f282) .nil .nil) .nil) (.node (some Tryz.f218) (.node (some Tryz.f346) .nil .nil) .nil)) (.node (some Tryz.f122) (.node (some Tryz.f186) (.node (some Tryz.f314) .nil .nil) .nil) (.node (some Tryz.f250) (.node (some Tryz.f378) .nil .nil) .nil))))) (.node (some Tryz.f14) (.node (some Tryz.f22) (.node (some Tryz.f38) (.node (some Tryz.f70) (.node (some Tryz.f134) (.node (some Tryz.f262) .nil .nil) .nil) (.node (some Tryz.f198) (.node (some Tryz.f326) .nil .nil) .nil)) (.node (some Tryz.f102) (.node (some Tryz.f166) (.node (some Tryz.f294) .nil .nil) .nil) (.node (some Tryz.f230) (.node (some Tryz.f358) .nil .nil) .nil))) (.node (some Tryz.f54) (.node (some Tryz.f86) (.node (some Tryz.f150) (.node (some Tryz.f278) .nil .nil) .nil) (.node (some Tryz.f214) (.node (some Tryz.f342) .nil .nil) .nil)) (.node (some Tryz.f118) (.node (some Tryz.f182) (.node (some Tryz.f310) .nil .nil) .nil) (.node (some Tryz.f246) (.node (some Tryz.f374) .nil .nil) .nil)))) (.node (some Tryz.f30) (.node (some Tryz.f46) (.node (some Tryz.f78) (.node (some Tryz.f142) (.node (some Tryz.f270) .nil .nil) .nil) (.node (some Tryz.f206) (.node (some Tryz.f334) .nil .nil) .nil)) (.node (some Tryz.f110) (.node (some Tryz.f174) (.node (some Tryz.f302) .nil .nil) .nil) (.node (some Tryz.f238) (.node (some Tryz.f366) .nil .nil) .nil))) (.node (some Tryz.f62) (.node (some Tryz.f94) (.node (some Tryz.f158) (.node (some Tryz.f286) .nil .nil) .nil) (.node (some Tryz.f222) (.node (some Tryz.f350) .nil .nil) .nil)) (.node (some Tryz.f126) (.node (some Tryz.f190) (.node (some Tryz.f318) .nil .nil) .nil) (.node (some Tryz.f254) (.node (some Tryz.f382) .nil .nil) .nil)))))))
def extN (i:Nat):Nat:=cond (Nat.beq i 315) 1 (cond (Nat.beq i 294) 3 (cond (Nat.beq i 273) 4 (cond (Nat.beq i 215) 5 (cond (Nat.beq i 274) 6 (cond (Nat.beq i 83) 7 (0))))))
def eqsN (i:Nat):Bool:=cond (Nat.beq i 256) true (cond (Nat.beq i 258) true (cond (Nat.beq i 47) true (cond (Nat.beq i 65) true (cond (Nat.beq i 174) true (false)))))
def extHN (x:Nat) (args:List Value) (H:AH):Option (Value×AH) :=
 match x with
 | 6=>extKeys true 2 149 44 (isFn 85) args H
 | _=>none
noncomputable def tab:Tab:=⟨infoT.get,funcT.get,extN,fun _=>false,eqsN,extHN⟩
end Go.Am
namespace Go.Vw
open Go.RowKit Go.Am Go.Proofs
attribute [local irreducible] yE zv zq VD VDn VDq Ret
structure MSized where
 name:ByteArray
 size:Int
structure MOp where
 (kind a b c d e f k:Int)
 args:List Int
 (next els at_:Int)
structure MFunc where
 name:ByteArray
 (params regs result:Int)
 code:List MOp
structure MModule where
 (globals structs chans:List MSized)
 (locks inputs sinks hatches:List ByteArray)
 funcs:List MFunc
 threads:List Int
def zt (i:Int):List V:=[.int .i64 i]
def vi (s:ByteArray):List V:=[.str s]
def yX (s:MSized):List V:=[.str s.name,.int .i64 s.size]
def opV (o:MOp):List V:=[.int .i64 o.kind,.int .i64 o.a,.int .i64 o.b,.int .i64 o.c,.int .i64 o.d,.int .i64 o.e,.int .i64 o.f,.int .i64 o.k,.slice .no (o.args.map zt),.int .i64 o.next,.int .i64 o.els,.int .i64 o.at_]
def yt (f:MFunc):List V:=[.str f.name,.int .i64 f.params,.int .i64 f.regs,.int .i64 f.result,.slice .no (f.code.map opV)]
def ze (m:MModule):List V:=[.slice .no (m.globals.map yX),.slice .no (m.structs.map yX),.slice .no (m.chans.map yX),.slice .no (m.locks.map vi),.slice .no (m.inputs.map vi),.slice .no (m.sinks.map vi),.slice .no (m.hatches.map vi),.slice .no (m.funcs.map yt),.slice .no (m.threads.map zt)]
def rowsI:List (List V)→Option (List Int)
 | []=>some []
 | [.int .i64 i]::r=>match rowsI r with
   | some l=>some (i::l)
   | none=>none
 | _=>none
theorem rowsI_map:∀ xs:List Int,rowsI (xs.map zt)=some xs
 | []=>rfl
 | x::xs=>by show (match rowsI (xs.map zt) with | some l=>some (x::l) | none=>none)=_; rw [rowsI_map xs]
theorem rowsI_eq:∀ {rows:List (List V)} {xs:List Int},rowsI rows=some xs→rows=xs.map zt
 | [],xs,h=>by cases h; rfl
 | r::rows,xs,h=>by
   unfold rowsI at h
   split at h
   ·next h1=>cases h1
   ·next i r' h1 =>
    cases h1
    split at h
    ·next l e=>cases h; rw [rowsI_eq e]; rfl
    ·cases h
   ·cases h
def idxI {α:Type} (p:α→Bool) (xs:List α):Int:=match xs.findIdx? p with | some i=>i | none=>-1
theorem idxI_ge {α:Type} (p:α→Bool) (xs:List α):decide (0≤idxI p xs)=xs.any p:=by
 unfold idxI
 cases h:xs.findIdx? p with
 | none =>
   have h1:=List.findIdx?_eq_none_iff.1 h
   have:xs.any p=false:=by rw [List.any_eq_false]; intro x hx; simpa using h1 x hx
   rw [this]; rfl
 | some i =>
   have:xs.any p=true:=by
    cases hh:xs.any p
    ·have h1:=List.any_eq_false.1 hh
     have:xs.findIdx? p=none:=List.findIdx?_eq_none_iff.2 fun x hx=>by simpa using h1 x hx
     rw [this] at h; cases h
    ·rfl
   rw [this]
   simp
theorem zB0 {α:Type} (p:α→Bool) (xs:List α) (i:Nat) (hi:i < xs.length) (hp:p xs[i]=true) (hb:∀ j (h:j < i),p (xs[j]'(by omega))=false):idxI p xs=i:=by
 unfold idxI
 have:xs.findIdx? p=some i:=by
  rw [List.findIdx?_eq_some_iff_getElem]
  exact ⟨hi,hp,fun j hj=>by simpa using hb j hj⟩
 rw [this]
theorem zAS {α:Type} (p:α→Bool) (xs:List α) (hb:∀ j (h:j < xs.length),p xs[j]=false):idxI p xs = -1:=by
 unfold idxI
 have:xs.findIdx? p=none:=List.findIdx?_eq_none_iff.2 fun x hx=>by
  obtain ⟨j,hj,rfl⟩:=List.getElem_of_mem hx
  simpa using hb j hj
 rw [this]
section
variable [Drw] (hT:TabOk tab Tryz.prog)
include hT
theorem indexInts {p:Int→Bool} {tok:Tok} {xs:List Int} {fid:FuncId} {first cap:List V} {fn:Func} {body:Code} (hl:xs.length < 4611686018427387904) (hf:tab.func fid=some fn) (hb:fn.body=some body)
  (hp:∀ x∈xs,Pure Tryz.prog fid (first++[.int .i64 x]++cap) (.ob (p x))):Pure Tryz.prog 209 [.slice tok (xs.map zt),.func fid first cap] (.int .i64 (idxI p xs)):=by
 refine VC.code hT 19 rfl rfl rfl rfl fun F w S0=>?_
 refine gz hT rfl ?_;conv=>whnf
 refine zB rfl (zK hT rfl rfl rfl rfl rfl rfl (List.length_map _)) ?_
 refine gz hT rfl ?_;conv=>whnf
 refine zW (fun i:Nat=>([(0,.slice tok (xs.map zt)),(1,.func fid first cap),(7,.int .i64 xs.length),(8,.int .i64 i)],[])) (fun i=>∀ j (h:j < i) (h':j < xs.length),p xs[j]=false) (fun i=>xs.length - i) 0 (fun j h=>by omega) ⟨⟨lk rfl,lk rfl,lk rfl,lk rfl,trivial⟩,.nil⟩ fun i hi=>?_
 refine gz hT rfl ?_;conv=>whnf
 refine zC rfl (fun h=>?_) (fun h=>?_)
 ·simp only [decide_eq_true_eq,Int.ofNat_lt] at h
  refine gz hT rfl ?_;conv=>whnf
  refine zB rfl (zJ hT rfl rfl rfl rfl rfl h rfl) ?_
  refine gz hT rfl ?_;conv=>whnf
  refine zA rfl (zR hT rfl rfl rfl rfl hf hb (hp _ (List.getElem_mem h)) ?_)
  refine gz hT rfl ?_;conv=>whnf
  refine zC rfl (fun h2=>?_) (fun h2=>?_)
  ·refine gz hT rfl ?_;conv=>whnf
   refine zQ (.tmp rfl .nil) ?_
   show V.int .i64 (i:Int)=_
   rw [zB0 p xs i h h2 fun j hj=>hi j hj (by omega)]
  ·refine gz hT rfl ?_;conv=>whnf
   refine zB rfl (zU rfl rfl rfl (by omega)) ?_
   refine gz hT rfl ?_;conv=>whnf
   refine ⟨i+1,fun j hj hx=>?_,by omega,⟨lk rfl,lk rfl,lk rfl,lk rfl,trivial⟩,.nil⟩
   by_cases hji:j=i
   ·subst hji; exact h2
   ·exact hi j (by omega) hx
 ·simp only [decide_eq_false_iff_not,Int.ofNat_lt] at h
  refine gz hT rfl ?_;conv=>whnf
  refine zQ (.tmp rfl .nil) ?_
  rw [zAS p xs fun j hj=>hi j (by omega) hj]
  rfl
theorem zB1 {p:Int→Bool} {tok:Tok} {xs:List Int} {fid:FuncId} {first cap:List V} {fn:Func} {body:Code} (hl:xs.length < 4611686018427387904) (hf:tab.func fid=some fn) (hb:fn.body=some body)
  (hp:∀ x∈xs,Pure Tryz.prog fid (first++[.int .i64 x]++cap) (.ob (p x))):Pure Tryz.prog 163 [.slice tok (xs.map zt),.func fid first cap] (.ob (xs.any p)):=by
 refine VC.code hT 9 rfl rfl rfl rfl fun F w S0=>?_
 refine gz hT rfl ?_;conv=>whnf
 refine zA rfl (zR hT rfl rfl rfl rfl rfl rfl (indexInts hT hl hf hb hp) ?_)
 refine gz hT rfl ?_;conv=>whnf
 refine zQ (.tmp rfl .nil) ?_
 rw [← idxI_ge]; rfl
theorem indexSized {p:MSized→Bool} {tok:Tok} {xs:List MSized} {fid:FuncId} {first cap:List V} {fn:Func} {body:Code} (hl:xs.length < 4611686018427387904) (hf:tab.func fid=some fn) (hb:fn.body=some body)
  (hp:∀ x∈xs,Pure Tryz.prog fid (first++[.agg (yX x)]++cap) (.ob (p x))):Pure Tryz.prog 258 [.slice tok (xs.map yX),.func fid first cap] (.int .i64 (idxI p xs)):=by
 refine VC.code hT 19 rfl rfl rfl rfl fun F w S0=>?_
 refine gz hT rfl ?_;conv=>whnf
 refine zB rfl (zK hT rfl rfl rfl rfl rfl rfl (List.length_map _)) ?_
 refine gz hT rfl ?_;conv=>whnf
 refine zW (fun i:Nat=>([(0,.slice tok (xs.map yX)),(1,.func fid first cap),(7,.int .i64 xs.length),(8,.int .i64 i)],[])) (fun i=>∀ j (h:j < i) (h':j < xs.length),p xs[j]=false) (fun i=>xs.length - i) 0 (fun j h=>by omega) ⟨⟨lk rfl,lk rfl,lk rfl,lk rfl,trivial⟩,.nil⟩ fun i hi=>?_
 refine gz hT rfl ?_;conv=>whnf
 refine zC rfl (fun h=>?_) (fun h=>?_)
 ·simp only [decide_eq_true_eq,Int.ofNat_lt] at h
  refine gz hT rfl ?_;conv=>whnf
  refine zB rfl (zJ hT rfl rfl rfl rfl rfl h rfl) ?_
  refine gz hT rfl ?_;conv=>whnf
  refine zA rfl (zR hT rfl rfl rfl rfl hf hb (hp _ (List.getElem_mem h)) ?_)
  refine gz hT rfl ?_;conv=>whnf
  refine zC rfl (fun h2=>?_) (fun h2=>?_)
  ·refine gz hT rfl ?_;conv=>whnf
   refine zQ (.tmp rfl .nil) ?_
   show V.int .i64 (i:Int)=_
   rw [zB0 p xs i h h2 fun j hj=>hi j hj (by omega)]
  ·refine gz hT rfl ?_;conv=>whnf
   refine zB rfl (zU rfl rfl rfl (by omega)) ?_
   refine gz hT rfl ?_;conv=>whnf
   refine ⟨i+1,fun j hj hx=>?_,by omega,⟨lk rfl,lk rfl,lk rfl,lk rfl,trivial⟩,.nil⟩
   by_cases hji:j=i
   ·subst hji; exact h2
   ·exact hi j (by omega) hx
 ·simp only [decide_eq_false_iff_not,Int.ofNat_lt] at h
  refine gz hT rfl ?_;conv=>whnf
  refine zQ (.tmp rfl .nil) ?_
  rw [zAS p xs fun j hj=>hi j (by omega) hj]
  rfl
theorem containsSized {p:MSized→Bool} {tok:Tok} {xs:List MSized} {fid:FuncId} {first cap:List V} {fn:Func} {body:Code} (hl:xs.length < 4611686018427387904) (hf:tab.func fid=some fn) (hb:fn.body=some body)
  (hp:∀ x∈xs,Pure Tryz.prog fid (first++[.agg (yX x)]++cap) (.ob (p x))):Pure Tryz.prog 207 [.slice tok (xs.map yX),.func fid first cap] (.ob (xs.any p)):=by
 refine VC.code hT 9 rfl rfl rfl rfl fun F w S0=>?_
 refine gz hT rfl ?_;conv=>whnf
 refine zA rfl (zR hT rfl rfl rfl rfl rfl rfl (indexSized hT hl hf hb hp) ?_)
 refine gz hT rfl ?_;conv=>whnf
 refine zQ (.tmp rfl .nil) ?_
 rw [← idxI_ge]; rfl
theorem indexOps {p:MOp→Bool} {tok:Tok} {xs:List MOp} {fid:FuncId} {first cap:List V} {fn:Func} {body:Code} (hl:xs.length < 4611686018427387904) (hf:tab.func fid=some fn) (hb:fn.body=some body)
  (hp:∀ x∈xs,Pure Tryz.prog fid (first++[.agg (opV x)]++cap) (.ob (p x))):Pure Tryz.prog 164 [.slice tok (xs.map opV),.func fid first cap] (.int .i64 (idxI p xs)):=by
 refine VC.code hT 19 rfl rfl rfl rfl fun F w S0=>?_
 refine gz hT rfl ?_;conv=>whnf
 refine zB rfl (zK hT rfl rfl rfl rfl rfl rfl (List.length_map _)) ?_
 refine gz hT rfl ?_;conv=>whnf
 refine zW (fun i:Nat=>([(0,.slice tok (xs.map opV)),(1,.func fid first cap),(7,.int .i64 xs.length),(8,.int .i64 i)],[])) (fun i=>∀ j (h:j < i) (h':j < xs.length),p xs[j]=false) (fun i=>xs.length - i) 0 (fun j h=>by omega) ⟨⟨lk rfl,lk rfl,lk rfl,lk rfl,trivial⟩,.nil⟩ fun i hi=>?_
 refine gz hT rfl ?_;conv=>whnf
 refine zC rfl (fun h=>?_) (fun h=>?_)
 ·simp only [decide_eq_true_eq,Int.ofNat_lt] at h
  refine gz hT rfl ?_;conv=>whnf
  refine zB rfl (zJ hT rfl rfl rfl rfl rfl h rfl) ?_
  refine gz hT rfl ?_;conv=>whnf
  refine zA rfl (zR hT rfl rfl rfl rfl hf hb (hp _ (List.getElem_mem h)) ?_)
  refine gz hT rfl ?_;conv=>whnf
  refine zC rfl (fun h2=>?_) (fun h2=>?_)
  ·refine gz hT rfl ?_;conv=>whnf
   refine zQ (.tmp rfl .nil) ?_
   show V.int .i64 (i:Int)=_
   rw [zB0 p xs i h h2 fun j hj=>hi j hj (by omega)]
  ·refine gz hT rfl ?_;conv=>whnf
   refine zB rfl (zU rfl rfl rfl (by omega)) ?_
   refine gz hT rfl ?_;conv=>whnf
   refine ⟨i+1,fun j hj hx=>?_,by omega,⟨lk rfl,lk rfl,lk rfl,lk rfl,trivial⟩,.nil⟩
   by_cases hji:j=i
   ·subst hji; exact h2
   ·exact hi j (by omega) hx
 ·simp only [decide_eq_false_iff_not,Int.ofNat_lt] at h
  refine gz hT rfl ?_;conv=>whnf
  refine zQ (.tmp rfl .nil) ?_
  rw [zAS p xs fun j hj=>hi j (by omega) hj]
  rfl
theorem containsOps {p:MOp→Bool} {tok:Tok} {xs:List MOp} {fid:FuncId} {first cap:List V} {fn:Func} {body:Code} (hl:xs.length < 4611686018427387904) (hf:tab.func fid=some fn) (hb:fn.body=some body)
  (hp:∀ x∈xs,Pure Tryz.prog fid (first++[.agg (opV x)]++cap) (.ob (p x))):Pure Tryz.prog 98 [.slice tok (xs.map opV),.func fid first cap] (.ob (xs.any p)):=by
 refine VC.code hT 9 rfl rfl rfl rfl fun F w S0=>?_
 refine gz hT rfl ?_;conv=>whnf
 refine zA rfl (zR hT rfl rfl rfl rfl rfl rfl (indexOps hT hl hf hb hp) ?_)
 refine gz hT rfl ?_;conv=>whnf
 refine zQ (.tmp rfl .nil) ?_
 rw [← idxI_ge]; rfl
end
end Go.Vw
namespace Go.Vw
open Go.RowKit Go.Am Go.Proofs
attribute [local irreducible] yE zv zq VD VDn VDq Ret
def zM (m:Int) (xs:List Int):Bool:=!(xs.any fun n=>decide (n < 0) || decide (m≤n))
theorem bltI {n m:Nat} (h:n < m):Nat.blt n m=true:=by rw [Nat.blt_eq]; exact h
section
variable [Drw] (hT:TabOk tab Tryz.prog)
include hT
theorem below1 (x m:Int):Pure Tryz.prog 206 [.int .i64 x,.pin [.int .i64 m] 0] (.ob (decide (x < 0) || decide (m≤x))):=by
 refine VC.code hT 11 rfl rfl rfl rfl fun F w S0=>?_
 refine gz hT rfl ?_;conv=>whnf
 refine zG rfl rfl rfl rfl (fun h=>?_) (fun h=>?_)
 ·refine gz hT rfl ?_;conv=>whnf
  exact zP rfl rfl rfl (by rw [h]; rfl)
 ·refine gz hT rfl ?_;conv=>whnf
  exact zP rfl rfl rfl (by rw [h]; rfl)
theorem below {tok:Tok} {m:Int} {rows:List (List V)} {xs:List Int} (hx:rowsI rows=some xs) (hl:Nat.blt xs.length 4611686018427387904=true):Pure Tryz.prog 160 [.int .i64 m,.slice tok rows] (.ob (zM m xs)):=by
 rw [rowsI_eq hx]
 refine VC.code hT 9 rfl rfl rfl rfl fun F w S0=>?_
 refine gz hT rfl ?_;conv=>whnf
 refine zA rfl (zN rfl rfl rfl ?_)
 refine gz hT rfl ?_;conv=>whnf
 refine zA rfl (zR hT rfl rfl rfl rfl rfl rfl (zB1 hT (by rw [Nat.blt_eq] at hl; exact hl) rfl rfl fun x _=>below1 hT x m) ?_)
 refine gz hT rfl ?_;conv=>whnf
 exact zP rfl rfl rfl rfl
theorem zero {tok:Tok} {rows:List (List V)} {xs:List Int} (hx:rowsI rows=some xs) (hl:Nat.blt xs.length 4611686018427387904=true):Pure Tryz.prog 210 [.slice tok rows] (.ob (zM 1 xs)):=by
 refine VC.code hT 5 rfl rfl rfl rfl fun F w S0=>?_
 refine gz hT rfl ?_;conv=>whnf
 refine zA rfl (zR hT rfl rfl rfl rfl rfl rfl (below hT hx hl) ?_)
 refine gz hT rfl ?_;conv=>whnf
 exact zP rfl rfl rfl rfl
theorem sized1 (s:MSized) (a b:Int):Pure Tryz.prog 208 [.agg (yX s),.pin [.int .i64 a] 0,.pin [.int .i64 b] 0] (.ob (decide (s.size < a) || decide (b < s.size))):=by
 refine VC.code hT 15 rfl rfl rfl rfl fun F w S0=>?_
 refine gz hT rfl ?_;conv=>whnf
 refine zA rfl (zN rfl rfl rfl ?_)
 refine gz hT rfl ?_;conv=>whnf
 refine zG rfl rfl rfl rfl (fun h=>?_) (fun h=>?_)
 ·refine gz hT rfl ?_;conv=>whnf
  exact zP rfl rfl rfl (by rw [h]; rfl)
 ·refine gz hT rfl ?_;conv=>whnf
  exact zP rfl rfl rfl (by rw [h]; rfl)
end
end Go.Vw
namespace Go.Vw
open Go.RowKit Go.Am Go.Proofs
attribute [local irreducible] yE zv zq VD VDn VDq Ret
def viewV (m:MModule) (f:MFunc) (w:Int):List V:=ze m++(yt f++[.int .i64 w])
def wv (l:List MSized) (count least most:Int):Bool:=decide ((l.length:Int)≤count) && !(l.any fun s=>decide (s.size < least) || decide (most < s.size))
section
variable [Drw] (hT:TabOk tab Tryz.prog)
include hT
theorem sized {tok:Tok} {l:List MSized} (c a b:Int) (hl:l.length < 4611686018427387904):Pure Tryz.prog 161 [.slice tok (l.map yX),.int .i64 c,.int .i64 a,.int .i64 b] (.ob (wv l c a b)):=by
 refine VC.code hT 19 rfl rfl rfl rfl fun F w S0=>?_
 repeat' (first
  | (refine gz hT rfl ?_;conv=>whnf)
  | refine zA rfl (zN rfl rfl rfl ?_)
  | refine zA rfl (zH hT rfl rfl rfl rfl rfl rfl rfl rfl ?_)
  | refine zB rfl (zK hT rfl rfl rfl rfl rfl rfl (List.length_map _)) ?_
  | refine zG rfl rfl rfl rfl (fun h=>?_) (fun h=>?_)
  | refine zA rfl (zR hT rfl rfl rfl rfl rfl rfl (containsSized hT hl rfl rfl fun x _=>sized1 hT x a b) ?_)
  | exact zP rfl rfl rfl (by simp [wv, *]))
theorem regs {tok:Tok} {m:MModule} {f:MFunc} {w:Int} {rows:List (List V)} {xs:List Int} (hx:rowsI rows=some xs) (hl:Nat.blt xs.length 4611686018427387904=true):Pure Tryz.prog 166 [.agg (viewV m f w),.slice tok rows] (.ob (zM f.regs xs)):=by
 refine VC.code hT 10 rfl rfl rfl rfl fun F w S0=>?_
 repeat' (first
  | (refine gz hT rfl ?_;conv=>whnf)
  | refine zA rfl (zN rfl rfl rfl ?_)
  | refine zA rfl (zH hT rfl rfl rfl rfl rfl rfl rfl rfl ?_)
  | refine zB rfl (zK hT rfl rfl rfl rfl rfl rfl (List.length_map _)) ?_
  | refine zG rfl rfl rfl rfl (fun h=>?_) (fun h=>?_)
  | refine zA rfl (zR hT rfl rfl rfl rfl rfl rfl (below hT hx hl) ?_)
  | exact zP rfl rfl rfl rfl)
end
end Go.Vw
namespace Go.Vw
open Go.RowKit Go.Am Go.Proofs
attribute [local irreducible] yE zv zq VD VDn VDq Ret
theorem belowB_spec {m:Int} {xs:List Int}:zM m xs=true↔∀ x∈xs,0≤x∧x < m:=by
 unfold zM
 rw [Bool.not_eq_true',List.any_eq_false]
 constructor
 ·intro h x hx
  have:=h x hx
  simp only [Bool.or_eq_true,decide_eq_true_eq,not_or] at this
  omega
 ·intro h x hx
  have:=h x hx
  simp only [Bool.or_eq_true,decide_eq_true_eq,not_or]
  omega
theorem belowB_one {m x:Int}:zM m [x]=true↔0≤x∧x < m:=by rw [belowB_spec]; simp
def vr (m:MModule) (x:Int):Bool:=!zM m.funcs.length [x] || (match m.funcs[x.toNat]? with | some f=>!decide (f.params=0) | none=>false)
def wO (l:List MSized):Int:=(l.map (·.size)).sum
theorem zCg (l:List MSized) (i:Nat) (h:i < l.length):wO (l.take (i+1))=wO (l.take i)+l[i].size:=by
 unfold wO
 rw [List.take_succ_eq_append_getElem h,List.map_append,List.sum_append]
 simp
theorem sumI_bound (l:List MSized) (b:Int) (hb:∀ s∈l,0≤s.size∧s.size≤b):0≤wO l∧wO l≤l.length * b:=by
 unfold wO
 induction l with
 | nil=>simp
 | cons x l ih =>
   have h1:=hb x (by simp)
   have h2:=ih fun s hs=>hb s (List.mem_cons_of_mem _ hs)
   simp only [List.map_cons,List.sum_cons,List.length_cons]
   push_cast
   rw [Int.add_mul]
   omega
section
variable [Drw] (hT:TabOk tab Tryz.prog)
include hT
theorem frame1 (m:MModule) (x:Int):Pure Tryz.prog 162 [.int .i64 x,.pin (ze m) 0] (.ob (vr m x)):=by
 refine VC.code hT 20 rfl rfl rfl rfl fun F w S0=>?_
 refine gz hT rfl ?_;conv=>whnf
 refine zB rfl (zK hT rfl rfl rfl rfl rfl rfl (List.length_map _)) ?_
 refine gz hT rfl ?_;conv=>whnf
 refine zA rfl (zH hT rfl rfl rfl rfl rfl rfl rfl rfl ?_)
 refine gz hT rfl ?_;conv=>whnf
 refine zA rfl (zR hT rfl rfl rfl rfl rfl rfl (below hT rfl rfl) ?_)
 refine gz hT rfl ?_;conv=>whnf
 refine zG rfl rfl rfl rfl (fun h=>?_) (fun h=>?_)
 ·refine gz hT rfl ?_;conv=>whnf
  exact zP rfl rfl rfl (by simp [vr,h])
 ·refine gz hT rfl ?_;conv=>whnf
  have hb:=belowB_one.1 (by simpa using h)
  have hi:x.toNat < m.funcs.length:=by omega
  refine zB rfl (zr (r:=yt m.funcs[x.toNat]) hT rfl rfl rfl rfl rfl hb.1 (by rw [List.getElem?_map,List.getElem?_eq_getElem hi]; rfl) rfl) ?_
  refine gz hT rfl ?_;conv=>whnf
  refine zP rfl rfl rfl ?_
  simp only [vr,h,List.getElem?_eq_getElem hi,Bool.false_or]
theorem words (m:MModule) (hl:m.globals.length < 2000000) (hb:∀ s∈m.globals,0≤s.size∧s.size≤1000):Pure Tryz.prog 97 [.agg (ze m)] (.int .i64 (wO m.globals)):=by
 refine VC.code hT 19 rfl rfl rfl rfl fun F w S0=>?_
 repeat' (first
  | (refine gz hT rfl ?_;conv=>whnf)
  | refine zA rfl (zN rfl rfl rfl ?_)
  | refine zA rfl (zH hT rfl rfl rfl rfl rfl rfl rfl rfl ?_)
  | refine zB rfl (zK hT rfl rfl rfl rfl rfl rfl (List.length_map _)) ?_
  | refine zG rfl rfl rfl rfl (fun h=>?_) (fun h=>?_))
 refine zW (fun i:Nat=>([(3,.int .i64 (wO (m.globals.take i))),(7,.slice .no (m.globals.map yX)),(8,.int .i64 m.globals.length),(9,.int .i64 i)],[])) (fun i=>True) (fun i=>m.globals.length - i) 0 trivial ⟨⟨lk rfl,lk rfl,lk rfl,lk rfl,trivial⟩,.nil⟩ fun i _=>?_
 refine gz hT rfl ?_;conv=>whnf
 refine zC rfl (fun h=>?_) (fun h=>?_)
 ·simp only [decide_eq_true_eq,Int.ofNat_lt] at h
  refine gz hT rfl ?_;conv=>whnf
  refine zB rfl (zJ hT rfl rfl rfl rfl rfl h rfl) ?_
  refine gz hT rfl ?_;conv=>whnf
  refine zA rfl (zX hT rfl rfl rfl fun b=>?_)
  refine gz hT rfl ?_;conv=>whnf
  refine zA rfl (zI hT rfl rfl rfl .here rfl ?_)
  refine gz hT rfl ?_;conv=>whnf
  refine zB rfl (zT hT rfl rfl .here rfl) ?_
  refine gz hT rfl ?_;conv=>whnf
  have h1:=sumI_bound (m.globals.take i) 1000 fun s hs=>hb s (List.mem_of_mem_take hs)
  have h2:=hb _ (List.getElem_mem h)
  have h3:(m.globals.take i).length≤m.globals.length:=by rw [List.length_take]; omega
  refine zB rfl (zU rfl rfl rfl (by omega)) ?_
  refine gz hT rfl ?_;conv=>whnf
  refine zB rfl (zU rfl rfl rfl (by omega)) ?_
  refine gz hT rfl ?_;conv=>whnf
  refine ⟨i+1,trivial,by omega,⟨⟨_,rfl,by rw [zCg _ _ h]; exact .refl _⟩,lk rfl,lk rfl,lk rfl,trivial⟩,.nil⟩
 ·simp only [decide_eq_false_iff_not,Int.ofNat_lt] at h
  refine gz hT rfl ?_;conv=>whnf
  refine zQ (.tmp rfl .nil) ?_
  rw [List.take_of_length_le (by omega)]
  rfl
end
end Go.Vw
namespace Go.Vw
open Go.RowKit Go.Am Go.Proofs
attribute [local irreducible] yE zv zq VD VDn VDq Ret
def MModule.fn (m:MModule) (a:Int):MFunc:=(m.funcs[a.toNat]?).getD ⟨ByteArray.empty,0,0,0,[]⟩
def uG (m:MModule) (f:MFunc) (o:MOp):Bool :=
 if o.kind=16∨o.kind=17 then zM m.locks.length [o.a] && zM 1 [o.b,o.c,o.d,o.e,o.f,o.k]
 else if o.kind=18 then zM m.chans.length [o.a] && zM f.regs [o.b] && zM 1 [o.c,o.d,o.e,o.f,o.k]
 else if o.kind=19 then zM f.regs [o.a] && zM m.chans.length [o.b] && zM 1 [o.c,o.d,o.e,o.f,o.k]
 else if o.kind=20 then zM m.sinks.length [o.a] && zM f.regs [o.b] && zM 1 [o.c,o.d,o.e,o.f,o.k]
 else if o.kind=21 then zM f.regs [o.a] && zM 1 [o.b,o.c,o.d,o.e,o.f,o.k]
 else if o.kind=22 then zM m.funcs.length [o.a] && zM 1 [o.c,o.d,o.e,o.f] && (if o.k=0 then decide (o.b = -1) else decide (o.k=(m.fn o.a).result) && zM f.regs [o.b] && decide (o.b≤f.regs - o.k))
 else if o.kind=23 then zM 1 [o.a,o.b,o.c,o.d,o.e,o.f,o.k]
 else false
def xv (m:MModule) (f:MFunc) (w:Int) (o:MOp):Bool :=
 if o.kind=1 then zM f.regs [o.a] && zM 1 [o.b,o.c,o.d,o.e,o.f]
 else if o.kind=2 then zM f.regs [o.a] && zM m.inputs.length [o.b] && zM 1 [o.c,o.d,o.e,o.f,o.k]
 else if o.kind=3 then zM f.regs [o.a] && zM m.hatches.length [o.b] && zM 1 [o.c,o.d,o.e,o.f,o.k]
 else if o.kind=4 then zM f.regs [o.a,o.b] && zM 1 [o.c,o.d,o.e,o.f,o.k]
 else if o.kind=5 then zM f.regs [o.a,o.b] && zM 1 [o.c,o.d,o.e,o.f] && (decide (o.k=1) || decide (o.k=2))
 else if o.kind=6 then zM f.regs [o.a,o.b,o.c] && zM 1 [o.d,o.e,o.f] && decide (1≤o.k) && decide (o.k≤11)
 else if o.kind=7 then zM f.regs [o.a] && zM w [o.b] && zM 1 [o.c,o.d,o.e,o.f] && zM 2 [o.k]
 else if o.kind=8 then zM w [o.a] && zM f.regs [o.b] && zM 1 [o.c,o.d,o.e,o.f] && zM 2 [o.k]
 else if o.kind=9 then zM f.regs [o.a] && zM m.structs.length [o.b] && zM 1 [o.c,o.d,o.e,o.f,o.k]
 else if o.kind=10 then zM f.regs [o.a,o.b,o.c] && !decide (o.a=o.b) && zM 1 [o.d,o.e,o.f,o.k]
 else if o.kind=11 then zM f.regs [o.a,o.b] && zM 16 [o.c] && zM 1 [o.d,o.e,o.f] && zM 2 [o.k]
 else if o.kind=12 then zM f.regs [o.a,o.c] && zM 16 [o.b] && zM 1 [o.d,o.e,o.f] && zM 2 [o.k]
 else if o.kind=13∨o.kind=14 then zM f.regs [o.a,o.b,o.c,o.d] && zM 1 [o.e,o.f,o.k]
 else if o.kind=15 then zM f.regs [o.a,o.b,o.c,o.d,o.e,o.f] && !decide (o.a=o.b) && zM 1 [o.k]
 else uG m f o
theorem nf {b:Bool} (h:(!b)=false):b=true:=by simpa using h
structure OkF (f:MFunc):Prop where
 regs:0≤f.regs∧f.regs≤1024
 result:0≤f.result∧f.result≤2
 params:0≤f.params∧f.params≤f.regs
 code:0 < f.code.length∧f.code.length≤4096
theorem MModule.fn_ok {m:MModule} (hm:∀ f∈m.funcs,OkF f) {a:Int} (h:zM m.funcs.length [a]=true):OkF (m.fn a):=by
 have hb:=belowB_one.1 h
 have hi:a.toNat < m.funcs.length:=by omega
 unfold MModule.fn
 rw [List.getElem?_eq_getElem hi]
 exact hm _ (List.getElem_mem hi)
section
variable {S:Hp} {o:Oper} {ρ:Operand→Option V}
theorem xh (hT:TabOk tab Tryz.prog) {m:MModule} {a:Int} {tok:Tok} {x ix:Operand} {κ:IntKind} (ho:o.op = .indexAddr 24 x ix) (hx:ρ x=some (.slice tok (m.funcs.map yt))) (hi:ρ ix=some (.int κ a)) (hb:zM m.funcs.length [a]=true):QG Tryz.prog o ρ S (.pin (yt (m.fn a)) 0):=by
 have hb:=belowB_one.1 hb
 have hi':a.toNat < m.funcs.length:=by omega
 refine zr (r:=yt (m.fn a)) hT ho rfl rfl hx hi hb.1 ?_ rfl
 unfold MModule.fn
 rw [List.getElem?_map,List.getElem?_eq_getElem hi']; rfl
end
section
variable [Drw] (hT:TabOk tab Tryz.prog)
include hT
set_option maxHeartbeats 1000000 in
theorem others (m:MModule) (f:MFunc) (w:Int) (o:MOp) (hf:OkF f) (hm:∀ f∈m.funcs,OkF f):Pure Tryz.prog 211 [.agg (viewV m f w),.agg (opV o)] (.ob (uG m f o)):=by
 refine VC.code hT 227 rfl rfl rfl rfl fun F W S0=>?_
 repeat' (first
  | (refine gz hT rfl ?_;conv=>whnf)
  | refine zA rfl (zN rfl rfl rfl ?_)
  | refine zA rfl (zH hT rfl rfl rfl rfl rfl rfl rfl rfl ?_)
  | refine zB rfl (zK hT rfl rfl rfl rfl rfl rfl (List.length_map _)) ?_
  | refine zG rfl rfl rfl rfl (fun h=>?_) (fun h=>?_)
  | refine zC rfl (fun h=>?_) (fun h=>?_)
  | refine zA rfl (zR hT rfl rfl rfl rfl rfl rfl (zero hT rfl rfl) ?_)
  | refine zA rfl (zR hT rfl rfl rfl rfl rfl rfl (below hT rfl rfl) ?_)
  | refine zA rfl (zR hT rfl rfl rfl rfl rfl rfl (regs hT (m:=m) (f:=f) (w:=w) rfl rfl) ?_)
  | refine zB rfl (xh hT rfl rfl rfl (nf (by assumption))) ?_
  | exact zP rfl rfl rfl (by simp_all [uG]))
 have hb:zM m.funcs.length [o.a]=true:=nf (by assumption)
 have hg:=MModule.fn_ok hm hb
 refine zd hT rfl rfl ?_
 repeat' (first
  | refine zV rfl ?_
  | (refine god hT 2 rfl ?_;conv=>whnf)
  | refine q_g rfl (fun S'=>zH hT rfl rfl rfl rfl rfl rfl rfl rfl ⟨rfl,rfl⟩) ?_
  | refine q_g rfl (fun S'=>zR hT rfl rfl rfl rfl rfl rfl (regs hT (m:=m) (f:=f) (w:=w) rfl rfl) ⟨rfl,rfl⟩) ?_
  | refine q_g rfl (fun S'=>(xh hT rfl rfl rfl hb).qs) ?_
  | refine q_g rfl (fun S'=>(g_sub rfl rfl rfl (by have h1:=hg.result; have h2:=hf.regs; have h3:o.k=(m.fn o.a).result:=of_decide_eq_true (by assumption); omega)).qs) ?_
  | refine zk rfl rfl rfl rfl (fun h=>?_) (fun h=>?_)
  | (refine gz hT rfl ?_;conv=>whnf)
  | exact zP rfl rfl rfl (by simp_all [uG]))
 all_goals trace_state
end
end Go.Vw
namespace Go.Vw
open Go.RowKit Go.Am Go.Proofs
attribute [local irreducible] yE zv zq VD VDn VDq Ret
section
variable [Drw] (hT:TabOk tab Tryz.prog)
include hT
set_option maxHeartbeats 2000000 in
theorem fields (m:MModule) (f:MFunc) (w:Int) (o:MOp) (hf:OkF f) (hm:∀ f∈m.funcs,OkF f):Pure Tryz.prog 165 [.agg (viewV m f w),.agg (opV o)] (.ob (xv m f w o)):=by
 refine VC.code hT 421 rfl rfl rfl rfl fun F W S0=>?_
 repeat' (first
  | (refine gz hT rfl ?_;conv=>whnf)
  | refine zA rfl (zN rfl rfl rfl ?_)
  | refine zA rfl (zH hT rfl rfl rfl rfl rfl rfl rfl rfl ?_)
  | refine zB rfl (zK hT rfl rfl rfl rfl rfl rfl (List.length_map _)) ?_
  | refine zG rfl rfl rfl rfl (fun h=>?_) (fun h=>?_)
  | refine zC rfl (fun h=>?_) (fun h=>?_)
  | refine zA rfl (zR hT rfl rfl rfl rfl rfl rfl (zero hT rfl rfl) ?_)
  | refine zA rfl (zR hT rfl rfl rfl rfl rfl rfl (below hT rfl rfl) ?_)
  | refine zA rfl (zR hT rfl rfl rfl rfl rfl rfl (regs hT (m:=m) (f:=f) (w:=w) rfl rfl) ?_)
  | refine zA rfl (zR hT rfl rfl rfl rfl rfl rfl (others hT m f w o hf hm) ?_)
  | exact zP rfl rfl rfl (by simp_all [xv] <;> omega))
end
end Go.Vw
namespace Go.Vw
open Go.RowKit Go.Am Go.Proofs
attribute [local irreducible] yE zv zq VD VDn VDq Ret
def xY (m:MModule) (f:MFunc) (o:MOp):Int:=if o.kind=22 then (m.fn o.a).params else if o.kind=23 then f.result else 0
def xJ (m:MModule) (f:MFunc) (w:Int) (o:MOp):Bool:=xv m f w o && zM f.regs o.args && decide ((o.args.length:Int)=xY m f o) && zM (if o.kind=23 then 1 else f.code.length) [o.next] && zM (if o.kind=21 then f.code.length else 1) [o.els]
theorem call_in {m:MModule} {f:MFunc} {w:Int} {o:MOp} (h:xv m f w o=true) (hk:o.kind=22):zM m.funcs.length [o.a]=true:=by
 simp only [xv,uG,hk] at h
 simp at h
 exact h.1.1
section
variable [Drw] (hT:TabOk tab Tryz.prog)
include hT
set_option maxHeartbeats 2000000 in
theorem right (m:MModule) (f:MFunc) (w:Int) (o:MOp) (hf:OkF f) (hm:∀ f∈m.funcs,OkF f) (hl:o.args.length < 2000000):Pure Tryz.prog 100 [.agg (viewV m f w),.agg (opV o)] (.ob (xJ m f w o)):=by
 refine VC.code hT 64 rfl rfl rfl rfl fun F W S0=>?_
 repeat' (first
  | (refine gz hT rfl ?_;conv=>whnf)
  | refine zA rfl (zN rfl rfl rfl ?_)
  | refine zA rfl (zH hT rfl rfl rfl rfl rfl rfl rfl rfl ?_)
  | refine zB rfl (zK hT rfl rfl rfl rfl rfl rfl (List.length_map _)) ?_
  | refine zG rfl rfl rfl rfl (fun h=>?_) (fun h=>?_)
  | refine zC rfl (fun h=>?_) (fun h=>?_)
  | refine zA rfl (zR hT rfl rfl rfl rfl rfl rfl (below hT rfl rfl) ?_)
  | refine zA rfl (zR hT rfl rfl rfl rfl rfl rfl (regs hT (m:=m) (f:=f) (w:=w) (rowsI_map o.args) (bltI (by omega))) ?_)
  | refine zA rfl (zR hT rfl rfl rfl rfl rfl rfl (fields hT m f w o hf hm) ?_)
  | refine zB rfl (xh hT rfl rfl rfl (call_in (nf (by assumption)) (of_decide_eq_true (by assumption)))) ?_
  | exact zP rfl rfl rfl (by simp_all [xJ,xY] <;> omega))
 all_goals trace_state
theorem right1 (m:MModule) (f:MFunc) (w:Int) (o:MOp) (hf:OkF f) (hm:∀ f∈m.funcs,OkF f) (hl:o.args.length < 2000000):Pure Tryz.prog 99 [.agg (opV o),.pin (viewV m f w) 0] (.ob (!xJ m f w o)):=by
 refine VC.code hT 8 rfl rfl rfl rfl fun F W S0=>?_
 repeat' (first
  | (refine gz hT rfl ?_;conv=>whnf)
  | refine zA rfl (zN rfl rfl rfl ?_)
  | refine zA rfl (zH hT rfl rfl rfl rfl rfl rfl rfl rfl ?_)
  | refine zB rfl (zK hT rfl rfl rfl rfl rfl rfl (List.length_map _)) ?_
  | refine zG rfl rfl rfl rfl (fun h=>?_) (fun h=>?_)
  | refine zC rfl (fun h=>?_) (fun h=>?_)
  | refine zA rfl (zR hT rfl rfl rfl rfl rfl rfl (right hT m f w o hf hm hl) ?_)
  | exact zP rfl rfl rfl rfl)
end
end Go.Vw
namespace Go.Vw
open Go.RowKit Go.Am Go.Proofs
attribute [local irreducible] yE zv zq VD VDn VDq Ret
def qq (f:MFunc):Bool:=zM 1025 [f.regs] && zM (f.regs+1) [f.params] && zM 3 [f.result] && !decide ((f.code.length:Int)=0) && !decide (4096 < (f.code.length:Int))
theorem zCh {f:MFunc} (h:qq f=true):OkF f:=by
 simp only [qq,Bool.and_eq_true,belowB_one,Bool.not_eq_true',decide_eq_false_iff_not] at h
 obtain ⟨⟨⟨⟨h1,h2⟩,h3⟩,h4⟩,h5⟩:=h
 exact ⟨by omega,by omega,by omega,by omega⟩
def yk (l:List MFunc):Int:=(l.map fun f=>(f.code.length:Int)).sum
theorem zB2 (l:List MFunc) (i:Nat) (h:i < l.length):yk (l.take (i+1))=yk (l.take i)+l[i].code.length:=by
 unfold yk
 rw [List.take_succ_eq_append_getElem h,List.map_append,List.sum_append]
 simp
theorem zAj (l:List MFunc) (hb:∀ f∈l,qq f=true):0≤yk l∧yk l≤l.length * 4096:=by
 unfold yk
 induction l with
 | nil=>simp
 | cons x l ih =>
   have h1:=(zCh (hb x (by simp))).code
   have h2:=ih fun s hs=>hb s (List.mem_cons_of_mem _ hs)
   simp only [List.map_cons,List.sum_cons,List.length_cons]
   push_cast
   rw [Int.add_mul]
   omega
def zB3 (m:MModule):Bool:=wv m.globals 16 1 2 && wv m.structs 4 0 16 && wv m.chans 4 1 4
def namesB (m:MModule):Bool:=decide ((m.locks.length:Int)≤8) && decide ((m.inputs.length:Int)≤8) && decide ((m.sinks.length:Int)≤4) && decide ((m.hatches.length:Int)≤8)
def xt (m:MModule):Bool:=m.funcs.all qq && (zB3 m && namesB m && decide (1≤(m.funcs.length:Int)) && decide ((m.funcs.length:Int)≤12) && decide ((m.threads.length:Int)≤4) && decide (yk m.funcs≤4096) && !m.threads.any (vr m))
structure Small (m:MModule):Prop where
 globals:m.globals.length < 2000000
 structs:m.structs.length < 2000000
 chans:m.chans.length < 2000000
 locks:m.locks.length < 2000000
 inputs:m.inputs.length < 2000000
 sinks:m.sinks.length < 2000000
 hatches:m.hatches.length < 2000000
 funcs:m.funcs.length < 2000000
 threads:m.threads.length < 2000000
 code:∀ f∈m.funcs,f.code.length < 2000000
 args:∀ f∈m.funcs,∀ o∈f.code,o.args.length < 2000000
theorem bad_all {m:MModule} {i:Nat} (h:i < m.funcs.length) (hb:qq m.funcs[i]=false):xt m=false:=by
 have:m.funcs.all qq=false:=by
  rw [List.all_eq_false]
  exact ⟨_,List.getElem_mem h,by simp [hb]⟩
 simp [xt,this]
section
variable [Drw] (hT:TabOk tab Tryz.prog)
include hT
set_option maxHeartbeats 2000000 in
theorem frame (m:MModule) (hs:Small m):Pure Tryz.prog 96 [.agg (ze m)] (.ob (xt m)):=by
 refine VC.code hT 125 rfl rfl rfl rfl fun F W S0=>?_
 repeat' (first
  | (refine gz hT rfl ?_;conv=>whnf)
  | refine zA rfl (zN rfl rfl rfl ?_)
  | refine zA rfl (zH hT rfl rfl rfl rfl rfl rfl rfl rfl ?_)
  | refine zB rfl (zK hT rfl rfl rfl rfl rfl rfl (List.length_map _)) ?_
  | refine zG rfl rfl rfl rfl (fun h=>?_) (fun h=>?_))
 refine zW (fun i:Nat=>([(1,.pin (ze m) 0),(3,.int .i64 (yk (m.funcs.take i))),(10,.slice .no (m.funcs.map yt)),(11,.int .i64 m.funcs.length),(12,.int .i64 i)],[])) (fun i=>∀ f∈m.funcs.take i,qq f=true) (fun i=>m.funcs.length - i) 0 (fun f hf=>by simp at hf) ⟨⟨lk rfl,lk rfl,lk rfl,lk rfl,lk rfl,trivial⟩,.nil⟩ fun i hi=>?_
 have hsf:=hs.funcs
 refine gz hT rfl ?_;conv=>whnf
 refine zC rfl (fun hlt=>?_) (fun hlt=>?_)
 ·simp only [decide_eq_true_eq,Int.ofNat_lt] at hlt
  refine gz hT rfl ?_;conv=>whnf
  refine zB rfl (zJ hT rfl rfl rfl rfl rfl hlt rfl) ?_
  refine gz hT rfl ?_;conv=>whnf
  refine zA rfl (zX hT rfl rfl rfl fun b=>?_)
  refine gz hT rfl ?_;conv=>whnf
  refine zA rfl (zI (cs':=yt m.funcs[i]) hT rfl rfl rfl .here rfl ?_)
  refine zBE (t:=5) rfl .here ?_
  have h1:=zAj _ hi
  have h3:(m.funcs.take i).length≤m.funcs.length:=by rw [List.length_take]; omega
  have h4:=hs.code _ (List.getElem_mem hlt)
  repeat' (first
   | (refine gz hT rfl ?_;conv=>whnf)
   | refine zA rfl (zN rfl rfl rfl ?_)
   | refine zA rfl (zH hT rfl rfl rfl rfl rfl rfl rfl rfl ?_)
   | refine zB rfl (zK hT rfl rfl rfl rfl rfl rfl (List.length_map _)) ?_
   | refine zG rfl rfl rfl rfl (fun h=>?_) (fun h=>?_)
   | refine zC rfl (fun h=>?_) (fun h=>?_)
   | refine zA rfl (zR hT rfl rfl rfl rfl rfl rfl (below hT rfl rfl) ?_)
   | refine zB rfl (zU rfl rfl rfl (by omega)) ?_
   | refine zB rfl (zU rfl rfl rfl (by have:=belowB_one.1 (nf (by assumption):zM 1025 [_]=true); omega)) ?_
   | exact zP rfl rfl rfl (by rw [bad_all hlt (by simp only [Bool.not_eq_true',Bool.not_eq_false'] at *; simp only [qq, *,Bool.and_true,Bool.true_and,Bool.and_false,Bool.false_and,Bool.not_true,Bool.not_false])]))
  refine ⟨i+1,?_,by omega,⟨lk rfl,⟨_,rfl,by rw [zB2 _ _ hlt]; exact .refl _⟩,lk rfl,lk rfl,lk rfl,trivial⟩,.nil⟩
  have hok:qq m.funcs[i]=true:=by simp only [Bool.not_eq_true',Bool.not_eq_false'] at *; simp only [qq, *,Bool.and_true,Bool.true_and,Bool.and_false,Bool.false_and,Bool.not_true,Bool.not_false]
  intro f hf
  rw [List.take_succ_eq_append_getElem hlt] at hf
  rcases List.mem_append.1 hf with hf | hf
  ·exact hi f hf
  ·rw [List.mem_singleton.1 hf]; exact hok
 ·simp only [decide_eq_false_iff_not,Int.ofNat_lt] at hlt
  have e:m.funcs.take i=m.funcs:=List.take_of_length_le (by omega)
  rw [e] at hi
  have hall:m.funcs.all qq=true:=by rw [List.all_eq_true]; exact hi
  have h1:=hs.globals
  have h2:=hs.structs
  have h3:=hs.chans
  have h4:=hs.threads
  repeat' (first
   | (refine gz hT rfl ?_;conv=>whnf)
   | refine zA rfl (zN rfl rfl rfl ?_)
   | refine zA rfl (zH hT rfl rfl rfl rfl rfl rfl rfl rfl ?_)
   | refine zB rfl (zK hT rfl rfl rfl rfl rfl rfl (List.length_map _)) ?_
   | refine zG rfl rfl rfl rfl (fun h=>?_) (fun h=>?_)
   | refine zC rfl (fun h=>?_) (fun h=>?_)
   | refine zA rfl (zR hT rfl rfl rfl rfl rfl rfl (sized hT _ _ _ (by omega)) ?_)
   | refine zA rfl (zR hT rfl rfl rfl rfl rfl rfl (zB1 hT (by omega) rfl rfl fun x _=>frame1 hT m x) ?_)
   | exact zP rfl rfl rfl (by (try simp only [e] at *); simp only [xt,zB3,namesB, *,Bool.and_true,Bool.true_and,Bool.and_false,Bool.false_and,Bool.not_true,Bool.not_false]))
  trace_state
end
end Go.Vw
namespace Go.Vw
open Go.RowKit Go.Am Go.Proofs
attribute [local irreducible] yE zv zq VD VDn VDq Ret
def zO (m:MModule):Bool:=xt m && m.funcs.all fun f=>f.code.all (xJ m f (wO m.globals))
theorem qT {m:MModule} (h:xt m=true):(∀ f∈m.funcs,OkF f)∧(∀ s∈m.globals,0≤s.size∧s.size≤1000):=by
 simp only [xt,zB3,wv,Bool.and_eq_true] at h
 refine ⟨fun f hf=>zCh (List.all_eq_true.1 h.1 f hf),fun s hs=>?_⟩
 have h1:=h.2.1.1.1.1.1.1.1.1.2
 rw [Bool.not_eq_true',List.any_eq_false] at h1
 have:=h1 s hs
 simp only [Bool.or_eq_true,decide_eq_true_eq,not_or] at this
 omega
theorem any_not {α:Type} (p:α→Bool) (l:List α):l.any (fun x=>!p x)=!l.all p:=by
 induction l with
 | nil=>rfl
 | cons x l ih=>simp only [List.any_cons,List.all_cons,ih,Bool.not_and]
section
variable [Drw] (hT:TabOk tab Tryz.prog)
include hT
set_option maxHeartbeats 2000000 in
theorem codeRight (m:MModule) (hs:Small m):Pure Tryz.prog 59 [.agg (ze m)] (.ob (zO m)):=by
 refine VC.code hT 26 rfl rfl rfl rfl fun F W S0=>?_
 have hsf:=hs.funcs
 refine gz hT rfl ?_;conv=>whnf
 refine zA rfl (zN rfl rfl rfl ?_)
 refine gz hT rfl ?_;conv=>whnf
 refine zA rfl (zR hT rfl rfl rfl rfl rfl rfl (frame hT m hs) ?_)
 refine gz hT rfl ?_;conv=>whnf
 refine zC rfl (fun h=>?_) (fun h=>?_)
 ·refine gz hT rfl ?_;conv=>whnf
  exact zP rfl rfl rfl (by simp only [Bool.not_eq_true'] at h; simp [zO,h])
 have hfr:=nf h
 obtain ⟨hm,hg⟩:=qT hfr
 repeat' (first
  | (refine gz hT rfl ?_;conv=>whnf)
  | refine zA rfl (zN rfl rfl rfl ?_)
  | refine zA rfl (zH hT rfl rfl rfl rfl rfl rfl rfl rfl ?_)
  | refine zB rfl (zK hT rfl rfl rfl rfl rfl rfl (List.length_map _)) ?_
  | refine zG rfl rfl rfl rfl (fun h=>?_) (fun h=>?_))
 refine zW (fun i:Nat=>([(1,.pin (ze m) 0),(10,.slice .no (m.funcs.map yt)),(11,.int .i64 m.funcs.length),(12,.int .i64 i)],[])) (fun i=>∀ f∈m.funcs.take i,f.code.all (xJ m f (wO m.globals))=true) (fun i=>m.funcs.length - i) 0 (fun f hf=>by simp at hf) ⟨⟨lk rfl,lk rfl,lk rfl,lk rfl,trivial⟩,.nil⟩ fun i hi=>?_
 refine gz hT rfl ?_;conv=>whnf
 refine zC rfl (fun hlt=>?_) (fun hlt=>?_)
 ·simp only [decide_eq_true_eq,Int.ofNat_lt] at hlt
  have hin:=List.getElem_mem hlt
  refine gz hT rfl ?_;conv=>whnf
  refine zB rfl (zJ hT rfl rfl rfl rfl rfl hlt rfl) ?_
  refine gz hT rfl ?_;conv=>whnf
  refine zA rfl (zX hT rfl rfl rfl fun b=>?_)
  refine gz hT rfl ?_;conv=>whnf
  refine zA rfl (zI (cs':=yt m.funcs[i]) hT rfl rfl rfl .here rfl ?_)
  refine zBE (t:=4) rfl .here ?_
  refine gz hT rfl ?_;conv=>whnf
  refine zd hT rfl rfl ?_
  refine god hT 2 rfl ?_;conv=>whnf
  refine q_g rfl (fun S'=>zR hT rfl rfl rfl rfl rfl rfl (words hT m hs.globals hg) ⟨rfl,rfl⟩) ?_
  refine god hT 2 rfl ?_;conv=>whnf
  refine zS rfl (eff rfl rfl (zX hT rfl rfl rfl fun b=>⟨trivial,?_⟩))
  refine god hT 2 rfl ?_;conv=>whnf
  refine zS rfl (eff rfl rfl (zI (cs':=viewV m m.funcs[i] (wO m.globals)) hT rfl rfl rfl .here rfl ⟨trivial,?_⟩))
  refine god hT 2 rfl ?_;conv=>whnf
  refine zV rfl ?_
  refine kb (t:=5) rfl .here ?_
  refine gz hT rfl ?_;conv=>whnf
  refine zA rfl (zR hT rfl rfl rfl rfl rfl rfl (containsOps (p:=fun o=>!xJ m m.funcs[i] (wO m.globals) o) hT (by have:=hs.code _ hin; omega) rfl rfl fun o ho=>right1 hT m m.funcs[i] (wO m.globals) o (hm _ hin) hm (hs.args _ hin o ho)) ?_)
  refine gz hT rfl ?_;conv=>whnf
  refine zC rfl (fun h2=>?_) (fun h2=>?_)
  ·refine gz hT rfl ?_;conv=>whnf
   refine zP rfl rfl rfl ?_
   rw [any_not,Bool.not_eq_true'] at h2
   have:(m.funcs.all fun f=>f.code.all (xJ m f (wO m.globals)))=false:=by
    rw [List.all_eq_false]
    exact ⟨_,hin,by simp [h2]⟩
   simp only [zO,this,Bool.and_false]
  ·refine gz hT rfl ?_;conv=>whnf
   refine zB rfl (zU rfl rfl rfl (by omega)) ?_
   refine gz hT rfl ?_;conv=>whnf
   refine ⟨i+1,?_,by omega,⟨lk rfl,lk rfl,lk rfl,lk rfl,trivial⟩,.nil⟩
   rw [any_not,Bool.not_eq_false'] at h2
   intro f hf
   rw [List.take_succ_eq_append_getElem hlt] at hf
   rcases List.mem_append.1 hf with hf | hf
   ·exact hi f hf
   ·rw [List.mem_singleton.1 hf]; exact h2
 ·simp only [decide_eq_false_iff_not,Int.ofNat_lt] at hlt
  have e:m.funcs.take i=m.funcs:=List.take_of_length_le (by omega)
  rw [e] at hi
  refine gz hT rfl ?_;conv=>whnf
  refine zP rfl rfl rfl ?_
  have:(m.funcs.all fun f=>f.code.all (xJ m f (wO m.globals)))=true:=by rw [List.all_eq_true]; exact hi
  simp only [zO,hfr,this,Bool.and_true]
end
end Go.Vw
namespace Go.Vw
open Go.RowKit Go.Am Go.Proofs
attribute [local irreducible] yE zv zq VD VDn VDq Ret
def PureR [Drw] (P:Program) (f:FuncId) (args:List V) (R:V→Prop):Prop:=VC P f args [] fun v _=>R v
theorem PureR.call [Drw] {P:Program} {f:FuncId} {args:List V} {R:V→Prop} {S:Hp} {Q:V→Hp→Prop} (h:PureR P f args R) (k:∀ v,R v→Q v S):VC P f args S Q:=fun F w us s a=>by
 refine ((VC.frame h S) F w us s a).mono ?_
 rintro e w' ⟨v',u,F',S',e1,e2,e3,e4,S1,rfl,hv⟩
 exact ⟨v',u,F',S,e1,e2,e3.sub (List.sublist_append_right _ _),e4.sub (List.sublist_append_right _ _),k v' hv⟩
theorem yl [Drw] {P:Program} {S:Hp} {tb:Tab} {o:Oper} {ρ:Operand→Option V} {k:V→Hp→Prop} (hT:TabOk tb P) {c:Call} {x:Operand} {f:FuncId} {first cap args:List V} {fn:Func} {body:Code} {R:V→Prop} (ho:o.op = .call c) (hc:c.callee = .value x) (hx:ρ x=some (.func f first cap)) (ha:valsV ρ c.args.toList=some args) (hf:tb.func f=some fn) (hb:fn.body=some body)
  (h:PureR P f (first++args++cap) R) (hk:∀ v,R v→k v S):OpS P o ρ S k:=yQ hT ho hc hx ha hf hb (h.call hk)
def isN (B:Int) (v:V):Prop:=∃ n:Int,v = .int .i64 n∧0≤n∧n≤B
def isB (v:V):Prop:=∃ b,v = .ob b
structure SmallN (m:MModule):Prop where
 globals:∀ s∈m.globals,s.name.size < 2000000
 structs:∀ s∈m.structs,s.name.size < 2000000
 chans:∀ s∈m.chans,s.name.size < 2000000
 locks:∀ s∈m.locks,s.size < 2000000
 inputs:∀ s∈m.inputs,s.size < 2000000
 sinks:∀ s∈m.sinks,s.size < 2000000
 hatches:∀ s∈m.hatches,s.size < 2000000
 funcs:∀ f∈m.funcs,f.name.size < 2000000
section
variable [Drw] (hT:TabOk tab Tryz.prog)
include hT
theorem vL {tok:Tok} (l:List MSized) (n:Int) (hn:0≤n∧n≤100000000000) (hl:l.length < 2000000) (hs:∀ s∈l,s.name.size < 2000000):PureR Tryz.prog 80 [.slice tok (l.map yX),.int .i64 n,.int .i64 2000] (isN 100000000000):=by
 refine VC.code hT 28 rfl rfl rfl rfl fun F W S0=>?_
 refine gz hT rfl ?_;conv=>whnf
 refine zW (fun x:Nat×Int=>([(0,.slice tok (l.map yX)),(1,.int .i64 x.2),(2,.int .i64 2000),(7,.int .i64 x.1)],[])) (fun x=>0≤x.2∧x.2≤100000000000) (fun x=>l.length - x.1) (0,n) hn ⟨⟨lk rfl,lk rfl,lk rfl,lk rfl,trivial⟩,.nil⟩ fun ⟨i,n⟩ hi=>?_
 refine gz hT rfl ?_;conv=>whnf
 refine zB rfl (zK hT rfl rfl rfl rfl rfl rfl (List.length_map _)) ?_
 refine gz hT rfl ?_;conv=>whnf
 refine zG rfl rfl rfl rfl (fun hlt=>?_) (fun hlt=>?_)
 ·simp only [decide_eq_true_eq,Int.ofNat_lt] at hlt
  refine gz hT rfl ?_;conv=>whnf
  refine zC rfl (fun h2=>?_) (fun h2=>?_)
  ·have h2:=of_decide_eq_true h2
   have h3:=hs _ (List.getElem_mem hlt)
   refine gz hT rfl ?_;conv=>whnf
   refine zB rfl (zJ hT rfl rfl rfl rfl rfl hlt rfl) ?_
   refine gz hT rfl ?_;conv=>whnf
   refine zB rfl (g_lenStr hT rfl rfl rfl rfl rfl rfl) ?_
   refine gz hT rfl ?_;conv=>whnf
   refine zB rfl (zU rfl rfl rfl (by omega)) ?_
   refine gz hT rfl ?_;conv=>whnf
   refine zB rfl (zU rfl rfl rfl (by omega)) ?_
   refine gz hT rfl ?_;conv=>whnf
   exact ⟨(i+1,n+(l[i].name.size:Int)),by dsimp only; omega,by dsimp only; omega,⟨lk rfl,lk rfl,lk rfl,lk rfl,trivial⟩,.nil⟩
  ·refine gz hT rfl ?_;conv=>whnf
   exact zQ (.tmp rfl .nil) ⟨_,rfl,hi⟩
 ·refine gz hT rfl ?_;conv=>whnf
  exact zQ (.tmp rfl .nil) ⟨_,rfl,hi⟩
theorem x9 {tok:Tok} (l:List ByteArray) (n:Int) (hn:0≤n∧n≤100000000000) (hl:l.length < 2000000) (hs:∀ s∈l,s.size < 2000000):PureR Tryz.prog 81 [.slice tok (l.map vi),.int .i64 n,.int .i64 2000] (isN 100000000000):=by
 refine VC.code hT 27 rfl rfl rfl rfl fun F W S0=>?_
 refine gz hT rfl ?_;conv=>whnf
 refine zW (fun x:Nat×Int=>([(0,.slice tok (l.map vi)),(1,.int .i64 x.2),(2,.int .i64 2000),(7,.int .i64 x.1)],[])) (fun x=>0≤x.2∧x.2≤100000000000) (fun x=>l.length - x.1) (0,n) hn ⟨⟨lk rfl,lk rfl,lk rfl,lk rfl,trivial⟩,.nil⟩ fun ⟨i,n⟩ hi=>?_
 refine gz hT rfl ?_;conv=>whnf
 refine zB rfl (zK hT rfl rfl rfl rfl rfl rfl (List.length_map _)) ?_
 refine gz hT rfl ?_;conv=>whnf
 refine zG rfl rfl rfl rfl (fun hlt=>?_) (fun hlt=>?_)
 ·simp only [decide_eq_true_eq,Int.ofNat_lt] at hlt
  refine gz hT rfl ?_;conv=>whnf
  refine zC rfl (fun h2=>?_) (fun h2=>?_)
  ·have h2:=of_decide_eq_true h2
   have h3:=hs _ (List.getElem_mem hlt)
   refine gz hT rfl ?_;conv=>whnf
   refine zB rfl (zJ hT rfl rfl rfl rfl rfl hlt rfl) ?_
   refine gz hT rfl ?_;conv=>whnf
   refine zB rfl (g_lenStr (s:=l[i]) hT rfl rfl rfl rfl rfl rfl) ?_
   refine gz hT rfl ?_;conv=>whnf
   refine zB rfl (zU rfl rfl rfl (by omega)) ?_
   refine gz hT rfl ?_;conv=>whnf
   refine zB rfl (zU rfl rfl rfl (by omega)) ?_
   refine gz hT rfl ?_;conv=>whnf
   exact ⟨(i+1,n+(l[i].size:Int)),by dsimp only; omega,by dsimp only; omega,⟨lk rfl,lk rfl,lk rfl,lk rfl,trivial⟩,.nil⟩
  ·refine gz hT rfl ?_;conv=>whnf
   exact zQ (.tmp rfl .nil) ⟨_,rfl,hi⟩
 ·refine gz hT rfl ?_;conv=>whnf
  exact zQ (.tmp rfl .nil) ⟨_,rfl,hi⟩
end
end Go.Vw
namespace Go.Vw
open Go.RowKit Go.Am Go.Proofs
attribute [local irreducible] yE zv zq VD VDn VDq Ret
section
variable [Drw] (hT:TabOk tab Tryz.prog)
include hT
set_option maxHeartbeats 2000000 in
theorem weighModule (m:MModule) (hs:Small m) (hn:SmallN m):PureR Tryz.prog 32 [.agg (ze m),.int .i64 2000] (isN 100000000000):=by
 refine VC.code hT 136 rfl rfl rfl rfl fun F W S0=>?_
 have z1:=hs.globals
 have z2:=hs.structs
 have z3:=hs.chans
 have z4:=hs.locks
 have z5:=hs.inputs
 have z6:=hs.sinks
 have z7:=hs.hatches
 have z8:=hs.funcs
 have z9:=hs.threads
 repeat' (first
  | (refine gz hT rfl ?_;conv=>whnf)
  | refine zA rfl (zN rfl rfl rfl ?_)
  | refine zA rfl (zH hT rfl rfl rfl rfl rfl rfl rfl rfl ?_)
  | refine zB rfl (zK hT rfl rfl rfl rfl rfl rfl (List.length_map _)) ?_
  | refine zG rfl rfl rfl rfl (fun h=>?_) (fun h=>?_)
  | refine zB rfl (zU rfl rfl rfl (by omega)) ?_)
 refine zW (fun x:Nat×Int=>([(1,.int .i64 2000),(2,.pin (ze m) 0),(5,.int .i64 x.2),(6,.int .i64 x.1)],[])) (fun x=>0≤x.2∧x.2≤100000000000) (fun x=>m.funcs.length - x.1) (0,_) (by dsimp only; omega) ⟨⟨lk rfl,lk rfl,lk rfl,lk rfl,trivial⟩,.nil⟩ fun ⟨i,n⟩ hi=>?_
 have fin:∀ (K:List Kt),True:=fun _=>trivial
 refine gz hT rfl ?_;conv=>whnf
 refine zB rfl (zK hT rfl rfl rfl rfl rfl rfl (List.length_map _)) ?_
 refine gz hT rfl ?_;conv=>whnf
 refine zG rfl rfl rfl rfl (fun hlt=>?_) (fun hlt=>?_)
 ·simp only [decide_eq_true_eq,Int.ofNat_lt] at hlt
  refine gz hT rfl ?_;conv=>whnf
  refine zC rfl (fun h2=>?_) (fun h2=>?_)
  ·have h2:=of_decide_eq_true h2
   have hin:=List.getElem_mem hlt
   have h3:=hn.funcs _ hin
   have h4:=hs.code _ hin
   refine gz hT rfl ?_;conv=>whnf
   refine zd hT rfl rfl ?_
   repeat' (first
    | (refine god hT 2 rfl ?_;conv=>whnf)
    | refine zV rfl ?_
    | refine q_g rfl (fun S'=>(zK hT rfl rfl rfl rfl rfl rfl (List.length_map _)).qs) ?_
    | refine zk rfl rfl rfl rfl (fun h=>?_) (fun h=>?_)
    | refine q_g rfl (fun S'=>(zJ hT rfl rfl rfl rfl rfl hlt rfl).qs) ?_
    | refine q_g rfl (fun S'=>(g_lenStr (s:=m.funcs[i].name) hT rfl rfl rfl rfl rfl rfl).qs) ?_
    | refine q_g rfl (fun S'=>(zU rfl rfl rfl (by omega)).qs) ?_)
   refine gz hT rfl ?_;conv=>whnf
   refine zW (fun x:Nat×Int=>([(1,.int .i64 2000),(2,.pin (ze m) 0),(5,.int .i64 x.2),(6,.int .i64 i),(7,.int .i64 x.1)],[])) (fun x=>0≤x.2∧x.2≤100000000000) (fun x=>m.funcs[i].code.length - x.1) (0,_) (by dsimp only; omega) ⟨⟨lk rfl,lk rfl,lk rfl,lk rfl,lk rfl,trivial⟩,.nil⟩ fun ⟨k,n⟩ hk=>?_
   refine gz hT rfl ?_;conv=>whnf
   refine zB rfl (zJ hT rfl rfl rfl rfl rfl hlt rfl) ?_
   refine gz hT rfl ?_;conv=>whnf
   refine zB rfl (zK hT rfl rfl rfl rfl rfl rfl (List.length_map _)) ?_
   refine gz hT rfl ?_;conv=>whnf
   refine zG rfl rfl rfl rfl (fun hlk=>?_) (fun hlk=>?_)
   ·simp only [decide_eq_true_eq,Int.ofNat_lt] at hlk
    refine gz hT rfl ?_;conv=>whnf
    refine zC rfl (fun h6=>?_) (fun h6=>?_)
    ·have h6:=of_decide_eq_true h6
     have h5:=hs.args _ hin _ (List.getElem_mem hlk)
     repeat' (first
      | (refine gz hT rfl ?_;conv=>whnf)
      | refine zA rfl (zN rfl rfl rfl ?_)
      | refine zA rfl (zH hT rfl rfl rfl rfl rfl rfl rfl rfl ?_)
      | refine zB rfl (zK hT rfl rfl rfl rfl rfl rfl (List.length_map _)) ?_
      | refine zG rfl rfl rfl rfl (fun h=>?_) (fun h=>?_)
      | refine zB rfl (zJ hT rfl rfl rfl rfl rfl hlt rfl) ?_
      | refine zB rfl (zJ hT rfl rfl rfl rfl rfl hlk rfl) ?_
      | refine zB rfl (zU rfl rfl rfl (by omega)) ?_)
     exact ⟨(k+1,n+(m.funcs[i].code[k].args.length:Int)),by dsimp only; omega,by dsimp only; omega,⟨lk rfl,lk rfl,lk rfl,lk rfl,lk rfl,trivial⟩,.nil⟩
    ·repeat' (first
      | (refine gz hT rfl ?_;conv=>whnf)
      | refine zA rfl (zN rfl rfl rfl ?_)
      | refine zA rfl (zH hT rfl rfl rfl rfl rfl rfl rfl rfl ?_)
      | refine zB rfl (zK hT rfl rfl rfl rfl rfl rfl (List.length_map _)) ?_
      | refine zG rfl rfl rfl rfl (fun h=>?_) (fun h=>?_)
      | refine zB rfl (zU rfl rfl rfl (by omega)) ?_)
     exact ⟨(i+1,n),hk,by dsimp only; omega,⟨lk rfl,lk rfl,lk rfl,lk rfl,trivial⟩,.nil⟩
   ·repeat' (first
     | (refine gz hT rfl ?_;conv=>whnf)
     | refine zA rfl (zN rfl rfl rfl ?_)
     | refine zA rfl (zH hT rfl rfl rfl rfl rfl rfl rfl rfl ?_)
     | refine zB rfl (zK hT rfl rfl rfl rfl rfl rfl (List.length_map _)) ?_
     | refine zG rfl rfl rfl rfl (fun h=>?_) (fun h=>?_)
     | refine zB rfl (zU rfl rfl rfl (by omega)) ?_)
    exact ⟨(i+1,n),hk,by dsimp only; omega,⟨lk rfl,lk rfl,lk rfl,lk rfl,trivial⟩,.nil⟩
  ·refine gz hT rfl ?_;conv=>whnf
   refine zA rfl (yl hT rfl rfl rfl rfl rfl rfl (vL hT m.globals _ hi hs.globals hn.globals) ?_)
   rintro _ ⟨n0,rfl,hn0⟩
   refine gz hT rfl ?_;conv=>whnf
   refine zA rfl (yl hT rfl rfl rfl rfl rfl rfl (vL hT m.structs _ hn0 hs.structs hn.structs) ?_)
   rintro _ ⟨n1,rfl,hn1⟩
   refine gz hT rfl ?_;conv=>whnf
   refine zA rfl (yl hT rfl rfl rfl rfl rfl rfl (vL hT m.chans _ hn1 hs.chans hn.chans) ?_)
   rintro _ ⟨n2,rfl,hn2⟩
   refine gz hT rfl ?_;conv=>whnf
   refine zA rfl (yl hT rfl rfl rfl rfl rfl rfl (x9 hT m.locks _ hn2 hs.locks hn.locks) ?_)
   rintro _ ⟨n3,rfl,hn3⟩
   refine gz hT rfl ?_;conv=>whnf
   refine zA rfl (yl hT rfl rfl rfl rfl rfl rfl (x9 hT m.inputs _ hn3 hs.inputs hn.inputs) ?_)
   rintro _ ⟨n4,rfl,hn4⟩
   refine gz hT rfl ?_;conv=>whnf
   refine zA rfl (yl hT rfl rfl rfl rfl rfl rfl (x9 hT m.sinks _ hn4 hs.sinks hn.sinks) ?_)
   rintro _ ⟨n5,rfl,hn5⟩
   refine gz hT rfl ?_;conv=>whnf
   refine zA rfl (yl hT rfl rfl rfl rfl rfl rfl (x9 hT m.hatches _ hn5 hs.hatches hn.hatches) ?_)
   rintro _ ⟨n6,rfl,hn6⟩
   refine gz hT rfl ?_;conv=>whnf
   exact zQ (.tmp rfl .nil) ⟨_,rfl,hn6⟩
 ·refine gz hT rfl ?_;conv=>whnf
  refine zA rfl (yl hT rfl rfl rfl rfl rfl rfl (vL hT m.globals _ hi hs.globals hn.globals) ?_)
  rintro _ ⟨n0,rfl,hn0⟩
  refine gz hT rfl ?_;conv=>whnf
  refine zA rfl (yl hT rfl rfl rfl rfl rfl rfl (vL hT m.structs _ hn0 hs.structs hn.structs) ?_)
  rintro _ ⟨n1,rfl,hn1⟩
  refine gz hT rfl ?_;conv=>whnf
  refine zA rfl (yl hT rfl rfl rfl rfl rfl rfl (vL hT m.chans _ hn1 hs.chans hn.chans) ?_)
  rintro _ ⟨n2,rfl,hn2⟩
  refine gz hT rfl ?_;conv=>whnf
  refine zA rfl (yl hT rfl rfl rfl rfl rfl rfl (x9 hT m.locks _ hn2 hs.locks hn.locks) ?_)
  rintro _ ⟨n3,rfl,hn3⟩
  refine gz hT rfl ?_;conv=>whnf
  refine zA rfl (yl hT rfl rfl rfl rfl rfl rfl (x9 hT m.inputs _ hn3 hs.inputs hn.inputs) ?_)
  rintro _ ⟨n4,rfl,hn4⟩
  refine gz hT rfl ?_;conv=>whnf
  refine zA rfl (yl hT rfl rfl rfl rfl rfl rfl (x9 hT m.sinks _ hn4 hs.sinks hn.sinks) ?_)
  rintro _ ⟨n5,rfl,hn5⟩
  refine gz hT rfl ?_;conv=>whnf
  refine zA rfl (yl hT rfl rfl rfl rfl rfl rfl (x9 hT m.hatches _ hn5 hs.hatches hn.hatches) ?_)
  rintro _ ⟨n6,rfl,hn6⟩
  refine gz hT rfl ?_;conv=>whnf
  exact zQ (.tmp rfl .nil) ⟨_,rfl,hn6⟩
theorem great (m:MModule) (hs:Small m) (hn:SmallN m):PureR Tryz.prog 11 [.agg (ze m)] isB:=by
 refine VC.code hT 25 rfl rfl rfl rfl fun F W S0=>?_
 have z8:=hs.funcs
 refine gz hT rfl ?_;conv=>whnf
 refine zA rfl (zN rfl rfl rfl ?_)
 refine gz hT rfl ?_;conv=>whnf
 refine zA rfl (yl hT rfl rfl rfl rfl rfl rfl (weighModule hT m hs hn) ?_)
 rintro _ ⟨n,rfl,hn⟩
 refine gz hT rfl ?_;conv=>whnf
 refine zC rfl (fun h=>?_) (fun h=>?_)
 ·refine gz hT rfl ?_;conv=>whnf
  exact zP rfl rfl rfl ⟨_,rfl⟩
 refine gz hT rfl ?_;conv=>whnf
 refine zW (fun i:Nat=>([(1,.pin (ze m) 0),(3,.int .i64 i)],[])) (fun _=>True) (fun i=>m.funcs.length - i) 0 trivial ⟨⟨lk rfl,lk rfl,trivial⟩,.nil⟩ fun i _=>?_
 refine gz hT rfl ?_;conv=>whnf
 refine zB rfl (zK hT rfl rfl rfl rfl rfl rfl (List.length_map _)) ?_
 refine gz hT rfl ?_;conv=>whnf
 refine zG rfl rfl rfl rfl (fun hlt=>?_) (fun hlt=>?_)
 ·simp only [decide_eq_true_eq,Int.ofNat_lt] at hlt
  repeat' (first
   | (refine gz hT rfl ?_;conv=>whnf)
   | refine zA rfl (zN rfl rfl rfl ?_)
   | refine zA rfl (zH hT rfl rfl rfl rfl rfl rfl rfl rfl ?_)
   | refine zB rfl (zK hT rfl rfl rfl rfl rfl rfl (List.length_map _)) ?_
   | refine zG rfl rfl rfl rfl (fun h=>?_) (fun h=>?_)
   | refine zC rfl (fun h=>?_) (fun h=>?_)
   | refine zB rfl (zJ hT rfl rfl rfl rfl rfl hlt rfl) ?_
   | refine zB rfl (zU rfl rfl rfl (by omega)) ?_
   | exact zP rfl rfl rfl ⟨_,rfl⟩
   | exact ⟨i+1,trivial,by omega,⟨lk rfl,lk rfl,trivial⟩,.nil⟩)
 ·refine gz hT rfl ?_;conv=>whnf
  exact zP rfl rfl rfl ⟨_,rfl⟩
end
end Go.Vw
namespace Go.Vw
open Go.RowKit Go.Am Go.Proofs
attribute [local irreducible] yE zv zq VD VDn VDq Ret
theorem yO {α:Type} {g:α→List V} {n:Nat} (h:∀ x,(g x).length=n) (l:List α):∀ r∈l.map g,r.length=n:=fun r hr=>by
 obtain ⟨x,_,rfl⟩:=List.mem_map.1 hr
 exact h x
theorem xr {α:Type} {g:α→List V} (h:∀ x,zz (g x)=true) (l:List α):∀ r∈l.map g,zz r=true:=fun r hr=>by
 obtain ⟨x,_,rfl⟩:=List.mem_map.1 hr
 exact h x
theorem yc (l:List Int):∀ r∈l.map zt,r.length=1:=yO (g:=zt) (n:=1) (fun _=>rfl) l
theorem wK (l:List Int):∀ r∈l.map zt,zz r=true:=xr (g:=zt) (fun _=>rfl) l
theorem strV_len (l:List ByteArray):∀ r∈l.map vi,r.length=1:=yO (g:=vi) (n:=1) (fun _=>rfl) l
theorem strV_cell (l:List ByteArray):∀ r∈l.map vi,zz r=true:=xr (g:=vi) (fun _=>rfl) l
theorem sizedV_len (l:List MSized):∀ r∈l.map yX,r.length=2:=yO (g:=yX) (n:=2) (fun _=>rfl) l
theorem sizedV_cell (l:List MSized):∀ r∈l.map yX,zz r=true:=xr (g:=yX) (fun _=>rfl) l
theorem opV_len (l:List MOp):∀ r∈l.map opV,r.length=12:=yO (g:=opV) (n:=12) (fun _=>rfl) l
theorem opV_cell (l:List MOp):∀ r∈l.map opV,zz r=true:=xr (g:=opV) (fun _=>rfl) l
theorem funcV_len (l:List MFunc):∀ r∈l.map yt,r.length=5:=yO (g:=yt) (n:=5) (fun _=>rfl) l
theorem funcV_cell (l:List MFunc):∀ r∈l.map yt,zz r=true:=xr (g:=yt) (fun _=>rfl) l
section
variable [Drw] (hT:TabOk tab Tryz.prog)
include hT
theorem copyInts {tok:Tok} (xs:List Int) (hl:xs.length < 2000000):Pure Tryz.prog 35 [.slice tok (xs.map zt)] (.slice .no (xs.map zt)):=by
 refine VC.code hT 9 rfl rfl rfl rfl fun F W S0=>?_
 refine gz hT rfl ?_;conv=>whnf
 refine zA rfl (yZ hT rfl rfl rfl rfl rfl rfl rfl rfl fun t ht=>?_)
 refine gz hT rfl ?_;conv=>whnf
 refine zA rfl (zx hT rfl rfl rfl rfl rfl rfl rfl rfl rfl rfl ht .here (fun r hr=>by cases hr) (yc xs) (wK xs) (by simp only [List.length_nil,List.length_map]; omega) fun t' ht'=>?_)
 refine gz hT rfl ?_;conv=>whnf
 exact zQ (.tmpL rfl (V.Le.slice _ _) .nil) rfl
theorem zAT {tok:Tok} (xs:List ByteArray) (hl:xs.length < 2000000):Pure Tryz.prog 34 [.slice tok (xs.map vi)] (.slice .no (xs.map vi)):=by
 refine VC.code hT 9 rfl rfl rfl rfl fun F W S0=>?_
 refine gz hT rfl ?_;conv=>whnf
 refine zA rfl (yZ hT rfl rfl rfl rfl rfl rfl rfl rfl fun t ht=>?_)
 refine gz hT rfl ?_;conv=>whnf
 refine zA rfl (zx hT rfl rfl rfl rfl rfl rfl rfl rfl rfl rfl ht .here (fun r hr=>by cases hr) (strV_len xs) (strV_cell xs) (by simp only [List.length_nil,List.length_map]; omega) fun t' ht'=>?_)
 refine gz hT rfl ?_;conv=>whnf
 exact zQ (.tmpL rfl (V.Le.slice _ _) .nil) rfl
theorem zCi {tok:Tok} (xs:List MSized) (hl:xs.length < 2000000):Pure Tryz.prog 33 [.slice tok (xs.map yX)] (.slice .no (xs.map yX)):=by
 refine VC.code hT 9 rfl rfl rfl rfl fun F W S0=>?_
 refine gz hT rfl ?_;conv=>whnf
 refine zA rfl (yZ hT rfl rfl rfl rfl rfl rfl rfl rfl fun t ht=>?_)
 refine gz hT rfl ?_;conv=>whnf
 refine zA rfl (zx hT rfl rfl rfl rfl rfl rfl rfl rfl rfl rfl ht .here (fun r hr=>by cases hr) (sizedV_len xs) (sizedV_cell xs) (by simp only [List.length_nil,List.length_map]; omega) fun t' ht'=>?_)
 refine gz hT rfl ?_;conv=>whnf
 exact zQ (.tmpL rfl (V.Le.slice _ _) .nil) rfl
theorem copyCode {tok:Tok} (xs:List MOp) (hl:xs.length < 2000000) (ha:∀ o∈xs,o.args.length < 2000000):Pure Tryz.prog 36 [.slice tok (xs.map opV)] (.slice .no (xs.map opV)):=by
 refine VC.code hT 26 rfl rfl rfl rfl fun F W S0=>?_
 refine gz hT rfl ?_;conv=>whnf
 refine zA rfl (yZ hT rfl rfl rfl rfl rfl rfl rfl rfl fun t ht=>?_)
 refine gz hT rfl ?_;conv=>whnf
 refine zW (fun x:Nat×Tok=>([(0,.slice tok (xs.map opV)),(3,.slice x.2 ((xs.take x.1).map opV)),(4,.int .i64 x.1)],[.tl x.2])) (fun x=>xg 12 x.2=true) (fun x=>xs.length - x.1) (0,t) ht ⟨⟨lk rfl,lk rfl,lk rfl,trivial⟩,.refl _⟩ fun ⟨i,t⟩ ht=>?_
 refine gz hT rfl ?_;conv=>whnf
 refine zB rfl (zK hT rfl rfl rfl rfl rfl rfl (List.length_map _)) ?_
 refine gz hT rfl ?_;conv=>whnf
 refine zC rfl (fun hlt=>?_) (fun hlt=>?_)
 ·simp only [decide_eq_true_eq,Int.ofNat_lt] at hlt
  have h2:=ha _ (List.getElem_mem hlt)
  refine gz hT rfl ?_;conv=>whnf
  refine zB rfl (zJ hT rfl rfl rfl rfl rfl hlt rfl) ?_
  refine gz hT rfl ?_;conv=>whnf
  refine zA rfl (zX hT rfl rfl rfl fun b=>?_)
  refine gz hT rfl ?_;conv=>whnf
  refine zA rfl (zI (cs':=opV xs[i]) hT rfl rfl rfl .here rfl ?_)
  refine gz hT rfl ?_;conv=>whnf
  refine zB rfl (zT hT rfl rfl .here rfl) ?_
  refine gz hT rfl ?_;conv=>whnf
  refine zA rfl (zR hT rfl rfl rfl rfl rfl rfl (copyInts hT xs[i].args h2) ?_)
  refine gz hT rfl ?_;conv=>whnf
  refine zA rfl (zI (cs':=opV xs[i]) hT rfl rfl rfl .here rfl ?_)
  refine gz hT rfl ?_;conv=>whnf
  refine zB rfl (zT hT rfl rfl .here rfl) ?_
  refine gz hT rfl ?_;conv=>whnf
  refine zA rfl (zH (rows:=[opV xs[i]]) hT rfl rfl rfl rfl rfl rfl rfl rfl ?_)
  refine gz hT rfl ?_;conv=>whnf
  refine zA rfl (zx hT rfl rfl rfl rfl rfl rfl rfl rfl rfl rfl ht (.there .here) (opV_len _) (opV_len [xs[i]]) (opV_cell [xs[i]]) (by simp only [List.length_cons,List.length_nil,List.length_map,List.length_take]; omega) fun t' ht'=>?_)
  refine gz hT rfl ?_;conv=>whnf
  refine zB rfl (zU rfl rfl rfl (by dsimp only; omega)) ?_
  refine gz hT rfl ?_;conv=>whnf
  exact ⟨(i+1,t'),ht',by dsimp only; omega,⟨lk rfl,⟨_,rfl,by dsimp only; rw [List.take_succ_eq_append_getElem hlt,List.map_append]; exact .refl _⟩,lk rfl,trivial⟩,.drop (.refl _)⟩
 ·simp only [decide_eq_false_iff_not,Int.ofNat_lt] at hlt
  refine gz hT rfl ?_;conv=>whnf
  refine zQ (.tmpL rfl (V.Le.slice _ _) .nil) ?_
  show V.slice .no ((xs.take i).map opV)=_
  rw [List.take_of_length_le (by omega)]
end
end Go.Vw
namespace Go.Vw
open Go.RowKit Go.Am Go.Proofs
attribute [local irreducible] yE zv zq VD VDn VDq Ret
def modV' (m:MModule) (fs:V):List V:=[.slice .no (m.globals.map yX),.slice .no (m.structs.map yX),.slice .no (m.chans.map yX),.slice .no (m.locks.map vi),.slice .no (m.inputs.map vi),.slice .no (m.sinks.map vi),.slice .no (m.hatches.map vi),fs,.slice .no (m.threads.map zt)]
def modZ:List V:=[.slice .zero [],.slice .zero [],.slice .zero [],.slice .zero [],.slice .zero [],.slice .zero [],.slice .zero [],.slice .zero [],.slice .zero []]
section
variable [Drw] (hT:TabOk tab Tryz.prog)
include hT
theorem copyModule (m:MModule) (hs:Small m):Pure Tryz.prog 12 [.agg (ze m)] (.agg (ze m)):=by
 refine VC.code hT 54 rfl rfl rfl rfl fun F W S0=>?_
 have z8:=hs.funcs
 refine gz hT rfl ?_;conv=>whnf
 refine zA rfl (zN rfl rfl rfl ?_)
 refine gz hT rfl ?_;conv=>whnf
 refine zA rfl (zX hT rfl rfl rfl fun b2=>?_)
 refine gz hT rfl ?_;conv=>whnf
 refine zd hT rfl rfl ?_
 repeat' (first
  | (refine god hT 2 rfl ?_;conv=>whnf)
  | refine zV rfl ?_
  | refine q_g rfl (fun S'=>(zK hT rfl rfl rfl rfl rfl rfl (List.length_map _)).qs) ?_
  | refine zk rfl rfl rfl rfl (fun h=>?_) (fun h=>?_)
  | refine q_g rfl (fun S'=>zR hT rfl rfl rfl rfl rfl rfl (zCi hT m.globals hs.globals) ⟨rfl,rfl⟩) ?_
  | refine q_g rfl (fun S'=>zR hT rfl rfl rfl rfl rfl rfl (zCi hT m.structs hs.structs) ⟨rfl,rfl⟩) ?_
  | refine q_g rfl (fun S'=>zR hT rfl rfl rfl rfl rfl rfl (zCi hT m.chans hs.chans) ⟨rfl,rfl⟩) ?_
  | refine q_g rfl (fun S'=>zR hT rfl rfl rfl rfl rfl rfl (zAT hT m.locks hs.locks) ⟨rfl,rfl⟩) ?_
  | refine q_g rfl (fun S'=>zR hT rfl rfl rfl rfl rfl rfl (zAT hT m.inputs hs.inputs) ⟨rfl,rfl⟩) ?_
  | refine q_g rfl (fun S'=>zR hT rfl rfl rfl rfl rfl rfl (zAT hT m.sinks hs.sinks) ⟨rfl,rfl⟩) ?_
  | refine q_g rfl (fun S'=>zR hT rfl rfl rfl rfl rfl rfl (zAT hT m.hatches hs.hatches) ⟨rfl,rfl⟩) ?_
  | refine q_g rfl (fun S'=>zR hT rfl rfl rfl rfl rfl rfl (copyInts hT m.threads hs.threads) ⟨rfl,rfl⟩) ?_)
 refine zS rfl (eff rfl rfl (zX hT rfl rfl rfl fun b3=>⟨trivial,?_⟩))
 refine god hT 2 rfl ?_;conv=>whnf
 refine zS rfl (eff rfl rfl (zI (cs':=modV' m (.slice .zero [])) hT rfl rfl rfl .here rfl ⟨trivial,?_⟩))
 refine god hT 2 rfl ?_;conv=>whnf
 refine zV rfl ?_
 refine gz hT rfl ?_;conv=>whnf
 refine zW (fun x:Nat×Tok=>([(1,.pin (ze m) 0),(2,.ptr b2 0),(3,.ptr b3 0),(4,.int .i64 x.1)],[.cells b3 (modV' m (.slice x.2 ((m.funcs.take x.1).map yt))) 27,.cells b2 modZ 27,.tl x.2])) (fun x=>xg 5 x.2=true) (fun x=>m.funcs.length - x.1) (0,.zero) rfl ⟨⟨lk rfl,lk rfl,lk rfl,lk rfl,trivial⟩,.keep (.keep (.zero .nil))⟩ fun ⟨i,t⟩ ht=>?_
 refine gz hT rfl ?_;conv=>whnf
 refine zB rfl (zK hT rfl rfl rfl rfl rfl rfl (List.length_map _)) ?_
 refine gz hT rfl ?_;conv=>whnf
 refine zC rfl (fun hlt=>?_) (fun hlt=>?_)
 ·simp only [decide_eq_true_eq,Int.ofNat_lt] at hlt
  have hin:=List.getElem_mem hlt
  refine gz hT rfl ?_;conv=>whnf
  refine zB rfl (zJ hT rfl rfl rfl rfl rfl hlt rfl) ?_
  refine gz hT rfl ?_;conv=>whnf
  refine zA rfl (zX hT rfl rfl rfl fun b=>?_)
  refine gz hT rfl ?_;conv=>whnf
  refine zA rfl (zI (cs':=yt m.funcs[i]) hT rfl rfl rfl .here rfl ?_)
  refine gz hT rfl ?_;conv=>whnf
  refine zB rfl (zT hT rfl rfl .here rfl) ?_
  refine gz hT rfl ?_;conv=>whnf
  refine zA rfl (zR hT rfl rfl rfl rfl rfl rfl (copyCode hT m.funcs[i].code (hs.code _ hin) (hs.args _ hin)) ?_)
  refine gz hT rfl ?_;conv=>whnf
  refine zA rfl (zI (cs':=yt m.funcs[i]) hT rfl rfl rfl .here rfl ?_)
  refine gz hT rfl ?_;conv=>whnf
  refine zB rfl (zT hT rfl rfl (.there .here) rfl) ?_
  refine gz hT rfl ?_;conv=>whnf
  refine zB rfl (zT hT rfl rfl .here rfl) ?_
  refine gz hT rfl ?_;conv=>whnf
  refine zA rfl (zH (rows:=[yt m.funcs[i]]) hT rfl rfl rfl rfl rfl rfl rfl rfl ?_)
  refine gz hT rfl ?_;conv=>whnf
  refine zA rfl (zx hT rfl rfl rfl rfl rfl rfl rfl rfl rfl rfl ht (.there (.there (.there .here))) (funcV_len _) (funcV_len [m.funcs[i]]) (funcV_cell [m.funcs[i]]) (by simp only [List.length_cons,List.length_nil,List.length_map,List.length_take]; omega) fun t' ht'=>?_)
  refine gz hT rfl ?_;conv=>whnf
  refine zA rfl (zI (cs':=modV' m (.slice t' ((m.funcs.take i).map yt++[yt m.funcs[i]]))) hT rfl rfl rfl (.there .here) rfl ?_)
  refine gz hT rfl ?_;conv=>whnf
  refine zB rfl (zU rfl rfl rfl (by dsimp only; omega)) ?_
  refine gz hT rfl ?_;conv=>whnf
  exact ⟨(i+1,t'),ht',by dsimp only; omega,⟨lk rfl,lk rfl,lk rfl,lk rfl,trivial⟩,by dsimp only; rw [List.take_succ_eq_append_getElem hlt,List.map_append]; exact .drop (.refl _)⟩
 ·simp only [decide_eq_false_iff_not,Int.ofNat_lt] at hlt
  have e:m.funcs.take i=m.funcs:=List.take_of_length_le (by omega)
  refine run_wkT (fr':=[(2,.ptr b2 0),(3,.ptr b3 0)]) (S':=[.cells b3 (ze m) 27,.cells b2 modZ 27]) ⟨⟨lk rfl,lk rfl,trivial⟩,by rw [e]; exact .cells (.cons (.refl _) (.cons (.refl _) (.cons (.refl _) (.cons (.refl _) (.cons (.refl _) (.cons (.refl _) (.cons (.refl _) (.cons (V.Le.slice _ _) (.cons (.refl _) .nil))))))))) (.keep .nil)⟩ ?_
  refine gz hT rfl ?_;conv=>whnf
  refine zB rfl (zT hT rfl rfl .here rfl) ?_
  refine gz hT rfl ?_;conv=>whnf
  refine zA rfl (zI (cs':=ze m) hT rfl rfl rfl (.there .here) rfl ?_)
  refine gz hT rfl ?_;conv=>whnf
  exact zQ (.cell rfl (.there .here) rfl .nil) rfl
end
end Go.Vw
namespace Go.Vw
open Go.RowKit Go.Am Go.Proofs
attribute [local irreducible] yE zv zq VD VDn VDq Ret
abbrev P2:=Int×Int
def zh (p:P2):List V:=[.int .i64 p.1,.int .i64 p.2]
theorem pair_eq (p q:P2):decide (p=q)=(decide (p.1=q.1) && decide (p.2=q.2)):=by
 obtain ⟨a,b⟩:=p
 obtain ⟨c,d⟩:=q
 simp only [Prod.mk.injEq,Bool.decide_and]
theorem key67 (p q:P2):keyB tab 256 (.agg (zh p)) (.agg (zh q))=some (decide (p=q)):=by
 rw [pair_eq]
 have:keyB tab 256 (.agg (zh p)) (.agg (zh q))=some (decide (p.1=q.1) && (decide (p.2=q.2) && true)):=by rfl
 rw [this,Bool.and_true]
abbrev AtM:=List (P2×P2)
def atE (e:P2×P2):V×V:=(.agg (zh e.1),.agg (zh e.2))
def zL:AtM→P2→Option P2
 | [],_=>none
 | e::r,p=>if p=e.1 then some e.2 else zL r p
def ul:AtM→P2→P2→AtM
 | [],p,l=>[(p,l)]
 | e::r,p,l=>if p=e.1 then (p,l)::r else e::ul r p l
theorem look67 (p:P2):∀ A:AtM,LookV tab 256 (.agg (zh p)) (A.map atE) ((zL A p).map fun l=>.agg (zh l))
 | []=>.nil
 | e::r=>by
   unfold zL
   by_cases h:p=e.1
   ·rw [if_pos h]
    exact .hit (by rw [key67,decide_eq_true h])
   ·rw [if_neg h]
    exact .miss (by rw [key67,decide_eq_false h]) (look67 p r)
theorem put67 (p l:P2):∀ A:AtM,PutV tab 256 (.agg (zh p)) (.agg (zh l)) (A.map atE) ((ul A p l).map atE)
 | []=>.nil
 | e::r=>by
   unfold ul
   by_cases h:p=e.1
   ·rw [if_pos h]
    have:atE e=(.agg (zh p),.agg (zh e.2)):=by rw [h]; rfl
    rw [List.map_cons,this]
    exact .hit (by rw [key67,decide_eq_true rfl])
   ·rw [if_neg h]
    exact .miss (by rw [key67,decide_eq_false h]) (put67 p l r)
theorem yW (A:AtM) (p l q:P2):zL (ul A p l) q=if q=p then some l else zL A q:=by
 induction A with
 | nil=>simp only [ul,zL]
 | cons e r ih =>
   unfold ul
   by_cases h:p=e.1
   ·rw [if_pos h]
    simp only [zL]
    by_cases hq:q=p
    ·simp [hq]
    ·rw [if_neg hq,if_neg hq,if_neg (by rw [← h]; exact hq)]
   ·rw [if_neg h]
    simp only [zL,ih]
    by_cases hq:q=e.1
    ·rw [if_pos hq,if_pos hq,if_neg (by rw [hq]; exact fun e'=>h e'.symm)]
    ·rw [if_neg hq,if_neg hq]
def ym (x y:Int):Int:=IntKind.i64.wrap (BitVec.ofInt IntKind.i64.bits x &&& BitVec.ofInt IntKind.i64.bits y).toNat
def orI (x y:Int):Int:=IntKind.i64.wrap (BitVec.ofInt IntKind.i64.bits x ||| BitVec.ofInt IntKind.i64.bits y).toNat
def vX (x y:Int):Int:=IntKind.i64.wrap (BitVec.ofInt IntKind.i64.bits x &&& ~~~(BitVec.ofInt IntKind.i64.bits y)).toNat
structure Fd where
 at_:AtM
 callers:List (Int×Tok×List P2)
 row:List P2
 rtok:Tok
def meet (A:AtM) (p l:P2):P2:=match zL A p with
 | some o=>(ym l.1 o.1,orI l.2 o.2)
 | none=>l
def zAk (x:Fd) (p l:P2):Fd:=if zL x.at_ p=some (meet x.at_ p l) then x else { x with at_:=ul x.at_ p (meet x.at_ p l),row:=x.row++[p] }
def ua (c:Int×Tok×List P2):V×V:=(.int .i64 c.1,.slice c.2.1 (c.2.2.map zh))
def fdS (m:MModule) (bx ba bc:Nat) (x:Fd):Hp:=.cells bx (ze m++[.map ba,.map bc,.slice x.rtok (x.row.map zh)]) 253::.map ba (x.at_.map atE)::.map bc (x.callers.map ua)::.tl x.rtok::x.callers.map fun c=>.tl c.2.1
structure FdOk (n:Nat) (x:Fd):Prop where
 row:x.row.length < n
 tok:xg 2 x.rtok=true
 callers:∀ c∈x.callers,c.2.2.length < n∧xg 2 c.2.1=true
structure Fp where
 at_:AtM
 callers:List (Int×List P2)
 row:List P2
def Fd.pure (x:Fd):Fp:=⟨x.at_,x.callers.map fun c=>(c.1,c.2.2),x.row⟩
def yP (x:Fp) (p l:P2):Fp:=if zL x.at_ p=some (meet x.at_ p l) then x else { x with at_:=ul x.at_ p (meet x.at_ p l),row:=x.row++[p] }
theorem come_pure (x:Fd) (p l:P2) (t:Tok):Fd.pure { zAk x p l with rtok:=t }=yP x.pure p l:=by
 unfold zAk yP Fd.pure
 by_cases h:zL x.at_ p=some (meet x.at_ p l)
 ·rw [if_pos h,if_pos h]
 ·rw [if_neg h,if_neg h]
theorem come_ok {n:Nat} {x:Fd} (h:FdOk n x) (p l:P2) {t:Tok} (ht:xg 2 t=true):FdOk (n+1) { zAk x p l with rtok:=t }:=by
 unfold zAk
 by_cases hc:zL x.at_ p=some (meet x.at_ p l)
 ·rw [if_pos hc]; exact ⟨by have:=h.row; show x.row.length < n+1; omega,ht,fun c hm=>by have:=h.callers c hm; exact ⟨by omega,this.2⟩⟩
 ·rw [if_neg hc]
  refine ⟨?_,ht,fun c hm=>by have:=h.callers c hm; exact ⟨by omega,this.2⟩⟩
  have:=h.row
  show (x.row++[p]).length < n+1
  rw [List.length_append,List.length_singleton]; omega
theorem wa (l:List P2):∀ r∈l.map zh,r.length=2:=yO (g:=zh) (n:=2) (fun _=>rfl) l
theorem qr (l:List P2):∀ r∈l.map zh,zz r=true:=xr (g:=zh) (fun _=>rfl) l
section
variable [Drw] (hT:TabOk tab Tryz.prog)
include hT
set_option maxHeartbeats 1000000 in
theorem come0 (m:MModule) (bx ba bc:Nat) (x:Fd) (hx:FdOk 60000000 x) (p l:P2):VC Tryz.prog 144 [.ptr bx 0,.agg (zh p),.agg (zh l)] (fdS m bx ba bc x) fun _ S'=>∃ t,xg 2 t=true∧S'=fdS m bx ba bc { zAk x p l with rtok:=t }:=by
 refine VC.code hT 52 rfl rfl rfl rfl fun F W S0=>?_
 refine gz hT rfl ?_;conv=>whnf
 refine zA rfl (zN rfl rfl rfl ?_)
 refine gz hT rfl ?_;conv=>whnf
 refine zA rfl (s_box rfl rfl rfl fun b5=>?_)
 refine gz hT rfl ?_;conv=>whnf
 refine zd hT rfl rfl ?_
 have hl:=look67 p x.at_
 refine god hT 2 rfl ?_;conv=>whnf
 refine yD hT rfl rfl rfl (.there .here) rfl ?_
 refine god hT 2 rfl ?_;conv=>whnf
 cases hf:zL x.at_ p with
 | none =>
   rw [hf] at hl
   refine q_c (fun S'=>∃ f',At S' (.map ba (x.at_.map atE)) f') rfl ⟨_,.there (.there .here)⟩ (fun S' ⟨_,hat⟩=>(yr hT rfl rfl rfl rfl rfl rfl hat hl).qs) ?_
   refine god hT 2 rfl ?_;conv=>whnf
   refine zS rfl (eff rfl rfl (zX hT rfl rfl rfl fun b6=>And.intro (And.intro ⟨_,.there (.there (.there .here))⟩ (And.intro ⟨_,_,_,.there (.there .here),rfl⟩ trivial)) ?_))
   refine god hT 2 rfl ?_;conv=>whnf
   refine zS rfl (eff rfl rfl (zI (cs':=[.int .i64 0,.int .i64 0]) hT rfl rfl rfl .here rfl ⟨trivial,?_⟩))
   refine god hT 2 rfl ?_;conv=>whnf
   refine zV rfl ?_
   refine gz hT rfl ?_;conv=>whnf
   refine zd hT rfl rfl ?_
   refine god hT 2 rfl ?_;conv=>whnf
   refine yD hT rfl rfl rfl (.there (.there .here)) rfl ?_
   refine god hT 2 rfl ?_;conv=>whnf
   refine yD hT rfl rfl rfl (.there .here) rfl ?_
   refine god hT 2 rfl ?_;conv=>whnf
   refine zS rfl (eff rfl rfl (wX (es2:=(ul x.at_ p l).map atE) hT (.inl rfl) rfl rfl rfl rfl rfl (.there (.there (.there .here))) (put67 p l x.at_) (And.intro trivial ?_)))
   refine god hT 2 rfl ?_;conv=>whnf
   refine zV rfl ?_
   refine gz hT rfl ?_;conv=>whnf
   refine zd hT rfl rfl ?_
   refine god hT 2 rfl ?_;conv=>whnf
   refine yD hT rfl rfl rfl (.there (.there .here)) rfl ?_
   refine god hT 2 rfl ?_;conv=>whnf
   refine q_g rfl (fun S'=>zH (rows:=[zh p]) hT rfl rfl rfl rfl rfl rfl rfl rfl ⟨rfl,rfl⟩) ?_
   refine god hT 2 rfl ?_;conv=>whnf
   refine zS rfl (eff rfl rfl (zx hT rfl rfl rfl rfl rfl rfl rfl rfl rfl rfl hx.tok (.there (.there (.there (.there (.there .here))))) (wa _) (wa [p]) (qr [p]) (by have:=hx.row; simp only [List.length_cons,List.length_nil,List.length_map]; omega) fun t' ht'=>And.intro trivial ?_))
   refine god hT 2 rfl ?_;conv=>whnf
   refine zS rfl (eff rfl rfl (zI (cs':=ze m++[.map ba,.map bc,.slice t' (x.row.map zh++[zh p])]) hT rfl rfl rfl (.there (.there .here)) rfl (And.intro trivial ?_)))
   refine god hT 2 rfl ?_;conv=>whnf
   refine zV rfl ?_
   refine next_wkT (fr':=[]) (S':=fdS m bx ba bc { zAk x p l with rtok:=t' }) ⟨trivial,.drop (.drop (by rw [zAk,hf,if_neg (by intro h; cases h),show meet x.at_ p l=l by simp [meet,hf]]; simp only [fdS,List.map_append]; exact .refl _))⟩ ?_
   refine gz hT rfl ?_;conv=>whnf
   exact zQ .nil ⟨t',ht',rfl⟩
 | some o =>
   rw [hf] at hl
   have hm:meet x.at_ p l=(ym l.1 o.1,orI l.2 o.2):=by simp only [meet,hf]
   refine q_c (fun S'=>∃ f',At S' (.map ba (x.at_.map atE)) f') rfl ⟨_,.there (.there .here)⟩ (fun S' ⟨_,hat⟩=>(yr hT rfl rfl rfl rfl rfl rfl hat hl).qs) ?_
   refine god hT 2 rfl ?_;conv=>whnf
   refine zS rfl (eff rfl rfl (zX hT rfl rfl rfl fun b6=>And.intro (And.intro ⟨_,.there (.there (.there .here))⟩ (And.intro ⟨_,_,_,.there (.there .here),rfl⟩ trivial)) ?_))
   refine god hT 2 rfl ?_;conv=>whnf
   refine zS rfl (eff rfl rfl (zI (cs':=zh o) hT rfl rfl rfl .here rfl (And.intro trivial ?_)))
   refine god hT 2 rfl ?_;conv=>whnf
   refine zV rfl ?_
   refine gz hT rfl ?_;conv=>whnf
   refine zB rfl (zT hT rfl rfl (.there .here) rfl) ?_
   refine gz hT rfl ?_;conv=>whnf
   refine zB rfl (zT hT rfl rfl .here rfl) ?_
   refine gz hT rfl ?_;conv=>whnf
   refine zB rfl (zT hT rfl rfl (.there .here) rfl) ?_
   refine gz hT rfl ?_;conv=>whnf
   refine zB rfl (zT hT rfl rfl .here rfl) ?_
   refine gz hT rfl ?_;conv=>whnf
   refine zA rfl (zI (cs':=zh (ym l.1 o.1,orI l.2 o.2)) hT rfl rfl rfl (.there .here) rfl ?_)
   refine gz hT rfl ?_;conv=>whnf
   refine zB rfl (zT hT rfl rfl (.there .here) rfl) ?_
   refine gz hT rfl ?_;conv=>whnf
   refine zB rfl (zT hT rfl rfl .here rfl) ?_
   refine gz hT rfl ?_;conv=>whnf
   refine zC rfl (fun h=>?_) (fun h=>?_)
   ·have hne:¬ some o=some (ym l.1 o.1,orI l.2 o.2):=fun e=>by
     have e:=Option.some.inj e
     have h1:decide (ym l.1 o.1=o.1)=true:=decide_eq_true (congrArg Prod.fst e).symm
     have h2:decide (orI l.2 o.2=o.2)=true:=decide_eq_true (congrArg Prod.snd e).symm
     have h:(!(decide (ym l.1 o.1=o.1) && (decide (orI l.2 o.2=o.2) && true)))=true:=h
     rw [h1,h2] at h
     cases h
    refine gz hT rfl ?_;conv=>whnf
    refine zd hT rfl rfl ?_
    refine god hT 2 rfl ?_;conv=>whnf
    refine yD hT rfl rfl rfl (.there (.there .here)) rfl ?_
    refine god hT 2 rfl ?_;conv=>whnf
    refine yD hT rfl rfl rfl (.there .here) rfl ?_
    refine god hT 2 rfl ?_;conv=>whnf
    refine zS rfl (eff rfl rfl (wX (es2:=(ul x.at_ p (ym l.1 o.1,orI l.2 o.2)).map atE) hT (.inl rfl) rfl rfl rfl rfl rfl (.there (.there (.there .here))) (put67 p (ym l.1 o.1,orI l.2 o.2) x.at_) (And.intro trivial ?_)))
    refine god hT 2 rfl ?_;conv=>whnf
    refine zV rfl ?_
    refine gz hT rfl ?_;conv=>whnf
    refine zd hT rfl rfl ?_
    refine god hT 2 rfl ?_;conv=>whnf
    refine yD hT rfl rfl rfl (.there (.there .here)) rfl ?_
    refine god hT 2 rfl ?_;conv=>whnf
    refine q_g rfl (fun S'=>zH (rows:=[zh p]) hT rfl rfl rfl rfl rfl rfl rfl rfl ⟨rfl,rfl⟩) ?_
    refine god hT 2 rfl ?_;conv=>whnf
    refine zS rfl (eff rfl rfl (zx hT rfl rfl rfl rfl rfl rfl rfl rfl rfl rfl hx.tok (.there (.there (.there (.there (.there .here))))) (wa _) (wa [p]) (qr [p]) (by have:=hx.row; simp only [List.length_cons,List.length_nil,List.length_map]; omega) fun t' ht'=>And.intro trivial ?_))
    refine god hT 2 rfl ?_;conv=>whnf
    refine zS rfl (eff rfl rfl (zI (cs':=ze m++[.map ba,.map bc,.slice t' (x.row.map zh++[zh p])]) hT rfl rfl rfl (.there (.there .here)) rfl (And.intro trivial ?_)))
    refine god hT 2 rfl ?_;conv=>whnf
    refine zV rfl ?_
    refine next_wkT (fr':=[]) (S':=fdS m bx ba bc { zAk x p l with rtok:=t' }) ⟨trivial,.drop (.drop (by rw [zAk,hf,hm,if_neg hne]; simp only [fdS,List.map_append]; exact .refl _))⟩ ?_
    refine gz hT rfl ?_;conv=>whnf
    exact zQ .nil ⟨t',ht',rfl⟩
   ·have he:o=(ym l.1 o.1,orI l.2 o.2):=by
     simp only [Bool.not_eq_false',Bool.and_eq_true,decide_eq_true_eq,and_true] at h
     exact (Prod.ext h.1 h.2).symm
    refine run_wkT (fr':=[]) (S':=fdS m bx ba bc x) ⟨trivial,.drop (.drop (.refl _))⟩ ?_
    refine gz hT rfl ?_;conv=>whnf
    refine zQ .nil ⟨x.rtok,hx.tok,?_⟩
    rw [zAk,hf,hm,if_pos (congrArg some he)]
theorem come (m:MModule) (bx ba bc:Nat) {n:Nat} (x:Fd) (hx:FdOk n x) (hn:n≤60000000) (p l:P2):VC Tryz.prog 144 [.ptr bx 0,.agg (zh p),.agg (zh l)] (fdS m bx ba bc x) fun _ S'=>∃ y,FdOk (n+1) y∧y.pure=yP x.pure p l∧S'=fdS m bx ba bc y :=
 (come0 hT m bx ba bc x ⟨Nat.lt_of_lt_of_le hx.row hn,hx.tok,fun c hc=>⟨Nat.lt_of_lt_of_le (hx.callers c hc).1 hn,(hx.callers c hc).2⟩⟩ p l).mono fun _ _S' ⟨t,ht,e⟩=>⟨_,come_ok hx p l ht,come_pure x p l t,e⟩
end
end Go.Vw
namespace Go.Vw
open Go.RowKit Go.Am Go.Proofs
attribute [local irreducible] yE zv zq VD VDn VDq Ret
section
variable [Drw] (hT:TabOk tab Tryz.prog)
include hT
theorem indexPlaces {tok:Tok} {xs:List P2} (p:P2) (hl:xs.length < 60000000):Pure Tryz.prog 305 [.slice tok (xs.map zh),.agg (zh p)] (.int .i64 (idxI (fun q=>decide (p=q)) xs)):=by
 refine VC.code hT 19 rfl rfl rfl rfl fun F W S0=>?_
 repeat' (first
  | (refine gz hT rfl ?_;conv=>whnf)
  | refine zA rfl (zN rfl rfl rfl ?_)
  | refine zA rfl (zH hT rfl rfl rfl rfl rfl rfl rfl rfl ?_)
  | refine zB rfl (zK hT rfl rfl rfl rfl rfl rfl (List.length_map _)) ?_
  | refine zG rfl rfl rfl rfl (fun h=>?_) (fun h=>?_))
 refine zW (fun i:Nat=>([(0,.slice tok (xs.map zh)),(3,.pin (zh p) 0),(7,.int .i64 xs.length),(8,.int .i64 i)],[])) (fun i=>∀ j (h:j < i) (h':j < xs.length),decide (p=xs[j])=false) (fun i=>xs.length - i) 0 (fun j h=>by omega) ⟨⟨lk rfl,lk rfl,lk rfl,lk rfl,trivial⟩,.nil⟩ fun i hi=>?_
 refine gz hT rfl ?_;conv=>whnf
 refine zC rfl (fun h=>?_) (fun h=>?_)
 ·simp only [decide_eq_true_eq,Int.ofNat_lt] at h
  refine gz hT rfl ?_;conv=>whnf
  refine zd hT rfl rfl ?_
  repeat' (first
   | (refine god hT 2 rfl ?_;conv=>whnf)
   | refine zV rfl ?_
   | refine q_g rfl (fun S'=>(zK hT rfl rfl rfl rfl rfl rfl (List.length_map _)).qs) ?_
   | refine zk rfl rfl rfl rfl (fun h=>?_) (fun h=>?_)
   | refine q_g rfl (fun S'=>(zJ hT rfl rfl rfl rfl rfl h rfl).qs) ?_)
  refine gz hT rfl ?_;conv=>whnf
  refine zC rfl (fun h2=>?_) (fun h2=>?_)
  ·have h2:(decide (p.1=xs[i].1) && (decide (p.2=xs[i].2) && true))=true:=h2
   rw [Bool.and_true,← pair_eq] at h2
   refine gz hT rfl ?_;conv=>whnf
   refine zQ (.tmp rfl .nil) ?_
   show V.int .i64 (i:Int)=_
   rw [zB0 _ xs i h h2 fun j hj=>hi j hj (by omega)]
  ·have h2:(decide (p.1=xs[i].1) && (decide (p.2=xs[i].2) && true))=false:=h2
   rw [Bool.and_true,← pair_eq] at h2
   refine gz hT rfl ?_;conv=>whnf
   refine zB rfl (zU rfl rfl rfl (by omega)) ?_
   refine gz hT rfl ?_;conv=>whnf
   refine ⟨i+1,fun j hj hx=>?_,by omega,⟨lk rfl,lk rfl,lk rfl,lk rfl,trivial⟩,.nil⟩
   by_cases hji:j=i
   ·subst hji; exact h2
   ·exact hi j (by omega) hx
 ·simp only [decide_eq_false_iff_not,Int.ofNat_lt] at h
  refine gz hT rfl ?_;conv=>whnf
  refine zQ (.tmp rfl .nil) ?_
  rw [zAS _ xs fun j hj=>hi j (by omega) hj]
  rfl
theorem kj {tok:Tok} {xs:List P2} (p:P2) (hl:xs.length < 60000000):Pure Tryz.prog 248 [.slice tok (xs.map zh),.agg (zh p)] (.ob (xs.any fun q=>decide (p=q))):=by
 refine VC.code hT 9 rfl rfl rfl rfl fun F W S0=>?_
 repeat' (first
  | (refine gz hT rfl ?_;conv=>whnf)
  | refine zA rfl (zN rfl rfl rfl ?_)
  | refine zA rfl (zH hT rfl rfl rfl rfl rfl rfl rfl rfl ?_)
  | refine zB rfl (zK hT rfl rfl rfl rfl rfl rfl (List.length_map _)) ?_
  | refine zG rfl rfl rfl rfl (fun h=>?_) (fun h=>?_)
  | refine zA rfl (zR hT rfl rfl rfl rfl rfl rfl (indexPlaces hT p hl) ?_))
 refine zQ (.tmp rfl .nil) ?_
 rw [← idxI_ge]; rfl
end
end Go.Vw
namespace Go.Vw
open Go.RowKit Go.Am Go.Proofs
attribute [local irreducible] yE zv zq VD VDn VDq Ret
def wb:List (Int×Tok×List P2)→Int→Option (Tok×List P2)
 | [],_=>none
 | c::r,a=>if a=c.1 then some c.2 else wb r a
def km:List (Int×Tok×List P2)→Int→Tok→P2→List (Int×Tok×List P2)
 | [],a,t,b=>[(a,t,[b])]
 | c::r,a,t,b=>if a=c.1 then (a,t,c.2.2++[b])::r else c::km r a t b
def y9:List (Int×List P2)→Int→Option (List P2)
 | [],_=>none
 | c::r,a=>if a=c.1 then some c.2 else y9 r a
def addP:List (Int×List P2)→Int→P2→List (Int×List P2)
 | [],a,b=>[(a,[b])]
 | c::r,a,b=>if a=c.1 then (a,c.2++[b])::r else c::addP r a b
theorem zBK (a:Int):∀ C:List (Int×Tok×List P2),y9 (C.map fun c=>(c.1,c.2.2)) a=(wb C a).map (·.2)
 | []=>rfl
 | c::r=>by
   simp only [List.map_cons,y9,wb]
   by_cases h:a=c.1
   ·rw [if_pos h,if_pos h]; rfl
   ·rw [if_neg h,if_neg h]; exact zBK a r
theorem zCj (a:Int) (t:Tok) (b:P2):∀ C:List (Int×Tok×List P2),((km C a t b).map fun c=>(c.1,c.2.2))=addP (C.map fun c=>(c.1,c.2.2)) a b
 | []=>rfl
 | c::r=>by
   simp only [List.map_cons,addP,km]
   by_cases h:a=c.1
   ·rw [if_pos h,if_pos h]; rfl
   ·rw [if_neg h,if_neg h,List.map_cons,zCj a t b r]
theorem key3 (a b:Int):keyB tab 3 (.int .i64 a) (.int .i64 b)=some (decide (a=b)):=by rfl
def sliceP (c:Tok×List P2):V:=.slice c.1 (c.2.map zh)
theorem look3 (a:Int):∀ C:List (Int×Tok×List P2),LookV tab 3 (.int .i64 a) (C.map ua) ((wb C a).map sliceP)
 | []=>.nil
 | c::r=>by
   unfold wb
   by_cases h:a=c.1
   ·rw [if_pos h]
    exact .hit (by rw [key3,decide_eq_true h])
   ·rw [if_neg h]
    exact .miss (by rw [key3,decide_eq_false h]) (look3 a r)
theorem put3 (a:Int) (t:Tok) (b:P2):∀ C:List (Int×Tok×List P2),PutV tab 3 (.int .i64 a) (.slice t ((((wb C a).map (·.2)).getD []).map zh++[zh b])) (C.map ua) ((km C a t b).map ua)
 | []=>.nil
 | c::r=>by
   unfold wb km
   by_cases h:a=c.1
   ·rw [if_pos h,if_pos h]
    have:ua c=(.int .i64 a,.slice c.2.1 (c.2.2.map zh)):=by rw [h]; rfl
    rw [List.map_cons,this,List.map_cons]
    have e2:ua (a,t,c.2.2++[b])=(.int .i64 a,.slice t (c.2.2.map zh++[zh b])):=by
     unfold ua; rw [List.map_append]; rfl
    rw [e2]
    exact .hit (by rw [key3,decide_eq_true rfl])
   ·rw [if_neg h,if_neg h]
    exact .miss (by rw [key3,decide_eq_false h]) (put3 a t b r)
def tlE (c:Int×Tok×List P2):HE:=.tl c.2.1
theorem at3 (a:Int) (b:P2) {t:Tok} {l:List P2}:∀ C:List (Int×Tok×List P2),wb C a=some (t,l)→∃ f,At (C.map tlE) (.tl t) f∧∀ t',f (.tl t')=(km C a t' b).map tlE
 | [],h=>by cases h
 | c::r,h=>by
   unfold wb at h
   by_cases hc:a=c.1
   ·rw [if_pos hc] at h
    have h1:=Option.some.inj h
    refine ⟨fun x=>x::r.map tlE,?_,fun t'=>?_⟩
    ·have:tlE c = .tl t:=by unfold tlE; rw [h1]
     rw [List.map_cons,this]; exact .here
    ·unfold km; rw [if_pos hc]; rfl
   ·rw [if_neg hc] at h
    obtain ⟨f,h1,h2⟩:=at3 a b r h
    refine ⟨fun x=>tlE c::f x,.there h1,fun t'=>?_⟩
    unfold km; rw [if_neg hc,List.map_cons]; show tlE c::f (HE.tl t')=_; rw [h2]
theorem at3n (a:Int) (b:P2):∀ C:List (Int×Tok×List P2),wb C a=none→∃ f,At (C.map tlE++[.tl .zero]) (.tl .zero) f∧∀ t',f (.tl t')=(km C a t' b).map tlE
 | [],_=>⟨fun x=>[x],.here,fun t'=>rfl⟩
 | c::r,h=>by
   unfold wb at h
   by_cases hc:a=c.1
   ·rw [if_pos hc] at h; cases h
   ·rw [if_neg hc] at h
    obtain ⟨f,h1,h2⟩:=at3n a b r h
    refine ⟨fun x=>tlE c::f x,.there h1,fun t'=>?_⟩
    unfold km; rw [if_neg hc,List.map_cons]; show tlE c::f (HE.tl t')=_; rw [h2]
theorem Sub.endZero:∀ S:Hp,Sub S (S++[.tl .zero])
 | []=>.zero .nil
 | _::S=>.keep (Sub.endZero S)
theorem addC_ok {n:Nat} {a:Int} {t:Tok} {b:P2} (ht:xg 2 t=true):∀ {C:List (Int×Tok×List P2)},(∀ c∈C,c.2.2.length < n∧xg 2 c.2.1=true)→0 < n→∀ c∈km C a t b,c.2.2.length < n+1∧xg 2 c.2.1=true
 | [],_,hn,c,hc=>by
   rcases List.mem_cons.1 hc with rfl | hc
   ·exact ⟨by show 1 < n+1; omega,ht⟩
   ·cases hc
 | x::r,h,hn,c,hc=>by
   unfold km at hc
   by_cases ha:a=x.1
   ·rw [if_pos ha] at hc
    rcases List.mem_cons.1 hc with rfl | hc
    ·have:=(h x (List.mem_cons_self ..)).1
     exact ⟨by show (x.2.2++[b]).length < n+1; rw [List.length_append,List.length_singleton]; omega,ht⟩
    ·have:=h c (List.mem_cons_of_mem _ hc)
     exact ⟨by omega,this.2⟩
   ·rw [if_neg ha] at hc
    rcases List.mem_cons.1 hc with rfl | hc
    ·have:=h c (List.mem_cons_self ..)
     exact ⟨by omega,this.2⟩
    ·exact addC_ok ht (fun c hc=>h c (List.mem_cons_of_mem _ hc)) hn c hc
end Go.Vw
namespace Go.Vw
open Go.RowKit Go.Am Go.Proofs
attribute [local irreducible] yE zv zq VD VDn VDq Ret
def yI (x:Fp) (a:Int) (back:P2):Nat→List MOp→Fp
 | _,[]=>x
 | i,o::r=>yI (match zL x.at_ (a,(i:Int)) with | some e=>if o.kind=23 then yP x back e else x | none=>x) a back (i+1) r
def yJ (x:Fp) (a:Int) (back:P2):Fp:=if (((y9 x.callers a).getD []).any fun q=>decide (back=q))=true then x else { x with callers:=addP x.callers a back }
def callP (m:MModule) (x:Fp) (p:P2) (o:MOp) (l:P2):Fp:=yI (yP (yJ x o.a (p.1,o.next)) (o.a,0) l) o.a (p.1,o.next) 0 (m.fn o.a).code
theorem zCk:∀ {C:List (Int×Tok×List P2)} {a:Int} {c:Tok×List P2},wb C a=some c→∃ a',(a',c)∈C
 | [],_,_,h=>by cases h
 | x::r,a,c,h=>by
   unfold wb at h
   by_cases hc:a=x.1
   ·rw [if_pos hc] at h
    exact ⟨x.1,by rw [← Option.some.inj h]; exact List.mem_cons_self ..⟩
   ·rw [if_neg hc] at h
    obtain ⟨a',h'⟩:=zCk h
    exact ⟨a',List.mem_cons_of_mem _ h'⟩
theorem FdOk.mono {n k:Nat} {x:Fd} (h:FdOk n x) (hn:n≤k):FdOk k x:=⟨Nat.lt_of_lt_of_le h.row hn,h.tok,fun c hc=>⟨Nat.lt_of_lt_of_le (h.callers c hc).1 hn,(h.callers c hc).2⟩⟩
theorem add_ok {n:Nat} {x:Fd} (h:FdOk n x) (a:Int) {t:Tok} (ht:xg 2 t=true) (b:P2):FdOk (n+1) { x with callers:=km x.callers a t b }:=⟨by have:=h.row; show x.row.length < n+1; omega,h.tok,addC_ok ht h.callers (by have:=h.row; omega)⟩
section
variable [Drw] (hT:TabOk tab Tryz.prog)
include hT
set_option maxHeartbeats 1000000 in
theorem call (m:MModule) (bx ba bc:Nat) {n:Nat} (x:Fd) (hx:FdOk n x) (p l:P2) (o:MOp) (ha:zM m.funcs.length [o.a]=true) (hc:(m.fn o.a).code.length≤4096) (hn:n+5000≤60000000) :
  VC Tryz.prog 198 [.ptr bx 0,.agg (zh p),.agg (opV o),.agg (zh l)] (fdS m bx ba bc x) fun _ S'=>∃ y,FdOk (n+2+(m.fn o.a).code.length) y∧y.pure=callP m x.pure p o l∧S'=fdS m bx ba bc y:=by
 refine VC.code hT 89 rfl rfl rfl rfl fun F W S0=>?_
 repeat' (first
  | (refine gz hT rfl ?_;conv=>whnf)
  | refine zA rfl (zN rfl rfl rfl ?_)
  | refine zA rfl (zH hT rfl rfl rfl rfl rfl rfl rfl rfl ?_)
  | refine zB rfl (zK hT rfl rfl rfl rfl rfl rfl (List.length_map _)) ?_
  | refine zG rfl rfl rfl rfl (fun h=>?_) (fun h=>?_))
 refine zA rfl (zX hT rfl rfl rfl fun b8=>?_)
 refine gz hT rfl ?_;conv=>whnf
 refine zA rfl (zI (cs':=zh (p.1,o.next)) hT rfl rfl rfl .here rfl ?_)
 refine zo (t:=8) rfl ?_
 refine gz hT rfl ?_;conv=>whnf
 have hl:=look3 o.a x.callers
 have hput:=fun t=>put3 o.a t (p.1,o.next) x.callers
 have hp0:=zBK o.a x.callers
 have hn0:0 < n:=by have:=hx.row; omega
 intro id
 refine kf 1 (fun y:Fd=>([(0,.ptr bx 0),(6,.pin (opV o) 0),(7,.pin (zh l) 0),(8,.pin (zh (p.1,o.next)) 0)],fdS m bx ba bc y)) (fun y=>FdOk (n+1) y∧y.pure=yJ x.pure o.a (p.1,o.next)) ?_ ?_
 ·refine zd hT rfl rfl ?_ id
  refine god hT 2 rfl ?_;conv=>whnf
  refine yD hT rfl rfl rfl .here rfl ?_
  refine god hT 2 rfl ?_;conv=>whnf
  cases hf:wb x.callers o.a with
  | none =>
    rw [hf] at hl hp0
    rw [hf] at hput
    refine q_c (fun S'=>∃ f',At S' (.map bc (x.callers.map ua)) f') rfl ⟨_,.there (.there .here)⟩ (fun S' ⟨_,hat⟩=>(yr hT rfl rfl rfl rfl rfl rfl hat hl).qs) ?_
    refine god hT 2 rfl ?_;conv=>whnf
    refine q_g rfl (fun S'=>zR hT rfl rfl rfl rfl rfl rfl (kj hT (xs:=[]) (p.1,o.next) (by decide)) ⟨rfl,rfl⟩) ?_
    refine god hT 2 rfl ?_;conv=>whnf
    refine zV rfl ?_
    refine gz hT rfl ?_;conv=>whnf
    refine zC rfl (fun h=>?_) (fun h=>by cases h)
    refine gz hT rfl ?_;conv=>whnf
    intro id
    obtain ⟨f3,h3,h3'⟩:=at3n o.a (p.1,o.next) x.callers hf
    refine wJ (.keep (.keep (.keep (.keep (Sub.endZero _))))) ?_
    refine zd hT rfl rfl ?_ id
    refine god hT 2 rfl ?_;conv=>whnf
    refine yD hT rfl rfl rfl .here rfl ?_
    refine god hT 2 rfl ?_;conv=>whnf
    refine yD hT rfl rfl rfl .here rfl ?_
    refine god hT 2 rfl ?_;conv=>whnf
    refine q_c (fun S'=>∃ f',At S' (.map bc (x.callers.map ua)) f') rfl ⟨_,.there (.there .here)⟩ (fun S' ⟨_,hat⟩=>(yr hT rfl rfl rfl rfl rfl rfl hat hl).qs) ?_
    refine god hT 2 rfl ?_;conv=>whnf
    refine q_g rfl (fun S'=>zH (rows:=[zh (p.1,o.next)]) hT rfl rfl rfl rfl rfl rfl rfl rfl ⟨rfl,rfl⟩) ?_
    refine god hT 2 rfl ?_;conv=>whnf
    refine zS rfl (eff rfl rfl (zx hT rfl rfl rfl rfl rfl rfl rfl rfl rfl rfl rfl (.there (.there (.there (.there h3)))) (fun r hr=>by cases hr) (wa [(p.1,o.next)]) (qr [(p.1,o.next)]) (by show 0+1 < 67108864; decide) fun t' ht'=>And.intro (And.intro ⟨_,_,_,.here,rfl⟩ trivial) ?_))
    refine god hT 2 rfl ?_;conv=>whnf
    refine zS rfl (eff rfl rfl (wX (es2:=(km x.callers o.a t' (p.1,o.next)).map ua) hT (.inl rfl) rfl rfl rfl rfl rfl (.there (.there .here)) (hput t') (And.intro trivial ?_)))
    refine god hT 2 rfl ?_;conv=>whnf
    refine zV rfl ?_
    refine gz hT rfl ?_;conv=>whnf
    refine ⟨{ x with callers:=km x.callers o.a t' (p.1,o.next) },⟨add_ok hx o.a ht' _,?_⟩,⟨lk rfl,lk rfl,lk rfl,lk rfl,trivial⟩,by rw [h3' t']; exact .refl _⟩
    unfold yJ
    rw [show x.pure.callers=x.callers.map fun c=>(c.1,c.2.2) from rfl,hp0,if_neg (by intro e; cases e)]
    unfold Fd.pure
    rw [zCj]
  | some c =>
    obtain ⟨tk,ps⟩:=c
    rw [hf] at hl hp0
    rw [hf] at hput
    obtain ⟨a',hmem⟩:=zCk hf
    have hok:=hx.callers _ hmem
    refine q_c (fun S'=>∃ f',At S' (.map bc (x.callers.map ua)) f') rfl ⟨_,.there (.there .here)⟩ (fun S' ⟨_,hat⟩=>(yr hT rfl rfl rfl rfl rfl rfl hat hl).qs) ?_
    refine god hT 2 rfl ?_;conv=>whnf
    refine q_g rfl (fun S'=>zR hT rfl rfl rfl rfl rfl rfl (kj hT (xs:=ps) (p.1,o.next) (by have:=hok.1; dsimp only at this; omega)) ⟨rfl,rfl⟩) ?_
    refine god hT 2 rfl ?_;conv=>whnf
    refine zV rfl ?_
    refine gz hT rfl ?_;conv=>whnf
    refine zC rfl (fun h=>?_) (fun h=>?_)
    rotate_left
    ·refine gz hT rfl ?_;conv=>whnf
     refine ⟨x,⟨hx.mono (by omega),?_⟩,⟨lk rfl,lk rfl,lk rfl,lk rfl,trivial⟩,.refl _⟩
     unfold yJ
     rw [show x.pure.callers=x.callers.map fun c=>(c.1,c.2.2) from rfl,hp0,if_pos (by simpa using h)]
    refine gz hT rfl ?_;conv=>whnf
    intro id
    obtain ⟨f3,h3,h3'⟩:=at3 o.a (p.1,o.next) x.callers hf
    refine zd hT rfl rfl ?_ id
    refine god hT 2 rfl ?_;conv=>whnf
    refine yD hT rfl rfl rfl .here rfl ?_
    refine god hT 2 rfl ?_;conv=>whnf
    refine yD hT rfl rfl rfl .here rfl ?_
    refine god hT 2 rfl ?_;conv=>whnf
    refine q_c (fun S'=>∃ f',At S' (.map bc (x.callers.map ua)) f') rfl ⟨_,.there (.there .here)⟩ (fun S' ⟨_,hat⟩=>(yr hT rfl rfl rfl rfl rfl rfl hat hl).qs) ?_
    refine god hT 2 rfl ?_;conv=>whnf
    refine q_g rfl (fun S'=>zH (rows:=[zh (p.1,o.next)]) hT rfl rfl rfl rfl rfl rfl rfl rfl ⟨rfl,rfl⟩) ?_
    refine god hT 2 rfl ?_;conv=>whnf
    refine zS rfl (eff rfl rfl (zx hT rfl rfl rfl rfl rfl rfl rfl rfl rfl rfl hok.2 (.there (.there (.there (.there h3)))) (wa ps) (wa [(p.1,o.next)]) (qr [(p.1,o.next)]) (by have:=hok.1; dsimp only at this; simp only [List.length_cons,List.length_nil,List.length_map]; omega) fun t' ht'=>And.intro (And.intro ⟨_,_,_,.here,rfl⟩ trivial) ?_))
    refine god hT 2 rfl ?_;conv=>whnf
    refine zS rfl (eff rfl rfl (wX (es2:=(km x.callers o.a t' (p.1,o.next)).map ua) hT (.inl rfl) rfl rfl rfl rfl rfl (.there (.there .here)) (hput t') (And.intro trivial ?_)))
    refine god hT 2 rfl ?_;conv=>whnf
    refine zV rfl ?_
    refine gz hT rfl ?_;conv=>whnf
    refine ⟨{ x with callers:=km x.callers o.a t' (p.1,o.next) },⟨add_ok hx o.a ht' _,?_⟩,⟨lk rfl,lk rfl,lk rfl,lk rfl,trivial⟩,by rw [h3' t']; exact .refl _⟩
    unfold yJ
    rw [show x.pure.callers=x.callers.map fun c=>(c.1,c.2.2) from rfl,hp0,if_neg (fun e=>by rw [Bool.not_eq_true'] at h; exact Bool.noConfusion (h.symm.trans e))]
    unfold Fd.pure
    rw [zCj]
 ·rintro y ⟨hy,ey⟩
  refine gz hT rfl ?_;conv=>whnf
  refine zA rfl (yQ hT rfl rfl rfl rfl rfl rfl ((come hT m bx ba bc y hy (by omega) (o.a,0) l).mono ?_))
  rintro v _ ⟨z,hz,ez,rfl⟩
  refine gz hT rfl ?_;conv=>whnf
  intro id
  refine zd hT rfl rfl ?_ id
  repeat' (first
   | (refine god hT 2 rfl ?_;conv=>whnf)
   | refine zV rfl ?_
   | refine q_g rfl (fun S'=>(zK hT rfl rfl rfl rfl rfl rfl (List.length_map _)).qs) ?_
   | refine zk rfl rfl rfl rfl (fun h=>?_) (fun h=>?_)
   | refine yD hT rfl rfl rfl .here rfl ?_
   | refine q_g rfl (fun S'=>(xh hT rfl rfl rfl ha).qs) ?_)
  refine gz hT rfl ?_;conv=>whnf
  have step:∀ (u:Fp) (i:Nat) (h:i < (m.fn o.a).code.length),yI u o.a (p.1,o.next) i ((m.fn o.a).code.drop i)=yI (match zL u.at_ (o.a,(i:Int)) with | some e=>if (m.fn o.a).code[i].kind=23 then yP u (p.1,o.next) e else u | none=>u) o.a (p.1,o.next) (i+1) ((m.fn o.a).code.drop (i+1)):=fun u i h=>by
   rw [List.drop_eq_getElem_cons h]; rfl
  refine zW (fun w:Nat×Fd=>([(0,.ptr bx 0),(6,.pin (opV o) 0),(8,.pin (zh (p.1,o.next)) 0),(59,.slice .no ((m.fn o.a).code.map opV)),(60,.int .i64 (m.fn o.a).code.length),(61,.int .i64 w.1)],fdS m bx ba bc w.2)) (fun w=>FdOk (n+2+w.1) w.2∧w.1≤(m.fn o.a).code.length∧yI w.2.pure o.a (p.1,o.next) w.1 ((m.fn o.a).code.drop w.1)=callP m x.pure p o l) (fun w=>(m.fn o.a).code.length - w.1) (0,z) ⟨hz,Nat.zero_le _,by dsimp only; rw [ez,ey]; rfl⟩ ⟨⟨lk rfl,lk rfl,lk rfl,lk rfl,lk rfl,lk rfl,trivial⟩,.refl _⟩ ?_
  rintro ⟨i,y⟩ ⟨hy,hi,ey⟩
  dsimp only at hy hi ey
  refine gz hT rfl ?_;conv=>whnf
  refine zC rfl (fun hlt=>?_) (fun hlt=>?_)
  ·simp only [decide_eq_true_eq,Int.ofNat_lt] at hlt
   rw [step _ _ hlt] at ey
   have h67:=look67 (o.a,(i:Int)) y.at_
   refine gz hT rfl ?_;conv=>whnf
   refine zB rfl (zJ hT rfl rfl rfl rfl rfl hlt rfl) ?_
   refine gz hT rfl ?_;conv=>whnf
   refine zA rfl (zX hT rfl rfl rfl fun b10=>?_)
   refine gz hT rfl ?_;conv=>whnf
   refine zA rfl (zI (cs':=opV (m.fn o.a).code[i]) hT rfl rfl rfl .here rfl ?_)
   refine zo (t:=10) rfl ?_
   refine gz hT rfl ?_;conv=>whnf
   intro id
   refine zd hT rfl rfl ?_ id
   refine god hT 2 rfl ?_;conv=>whnf
   refine yD hT rfl rfl rfl .here rfl ?_
   refine god hT 2 rfl ?_;conv=>whnf
   cases hf:zL y.at_ (o.a,(i:Int)) with
   | none =>
     rw [hf] at h67
     have hf':zL y.pure.at_ (o.a,(i:Int))=none:=hf
     rw [hf'] at ey
     refine q_c (fun S'=>∃ f',At S' (.map ba (y.at_.map atE)) f') rfl ⟨_,.there .here⟩ (fun S' ⟨_,hat⟩=>(yr hT rfl rfl rfl rfl rfl rfl hat h67).qs) ?_
     refine god hT 2 rfl ?_;conv=>whnf
     refine zS rfl (eff rfl rfl (zX hT rfl rfl rfl fun b11=>And.intro (And.intro ⟨_,.there (.there .here)⟩ (And.intro ⟨_,_,_,.there .here,rfl⟩ trivial)) ?_))
     refine god hT 2 rfl ?_;conv=>whnf
     refine zS rfl (eff rfl rfl (zI (cs':=zh (0,0)) hT rfl rfl rfl .here rfl (And.intro trivial ?_)))
     refine god hT 2 rfl ?_;conv=>whnf
     refine zV rfl ?_
     refine zBv (t:=11) rfl ?_
     refine gz hT rfl ?_;conv=>whnf
     refine zB rfl (zU rfl rfl rfl (by dsimp only; omega)) ?_
     refine gz hT rfl ?_;conv=>whnf
     exact ⟨(i+1,y),⟨hy.mono (by dsimp only; omega),by dsimp only; omega,ey⟩,by dsimp only; omega,⟨lk rfl,lk rfl,lk rfl,lk rfl,lk rfl,lk rfl,trivial⟩,.refl _⟩
   | some e =>
     rw [hf] at h67
     refine q_c (fun S'=>∃ f',At S' (.map ba (y.at_.map atE)) f') rfl ⟨_,.there .here⟩ (fun S' ⟨_,hat⟩=>(yr hT rfl rfl rfl rfl rfl rfl hat h67).qs) ?_
     refine god hT 2 rfl ?_;conv=>whnf
     refine zS rfl (eff rfl rfl (zX hT rfl rfl rfl fun b11=>And.intro (And.intro ⟨_,.there (.there .here)⟩ (And.intro ⟨_,_,_,.there .here,rfl⟩ trivial)) ?_))
     refine god hT 2 rfl ?_;conv=>whnf
     refine zS rfl (eff rfl rfl (zI (cs':=zh e) hT rfl rfl rfl .here rfl (And.intro trivial ?_)))
     refine god hT 2 rfl ?_;conv=>whnf
     refine zV rfl ?_
     refine zBv (t:=11) rfl ?_
     refine gz hT rfl ?_;conv=>whnf
     refine zC rfl (fun hk=>?_) (fun hk=>?_)
     ·have hk:=of_decide_eq_true hk
      refine gz hT rfl ?_;conv=>whnf
      refine zA rfl (yQ hT rfl rfl rfl rfl rfl rfl ((come hT m bx ba bc y hy (by omega) (p.1,o.next) e).mono ?_))
      rintro v _ ⟨z,hz,ez,rfl⟩
      refine gz hT rfl ?_;conv=>whnf
      refine zB rfl (zU rfl rfl rfl (by dsimp only; omega)) ?_
      refine gz hT rfl ?_;conv=>whnf
      refine ⟨(i+1,z),⟨hz,by dsimp only; omega,?_⟩,by dsimp only; omega,⟨lk rfl,lk rfl,lk rfl,lk rfl,lk rfl,lk rfl,trivial⟩,.refl _⟩
      dsimp only
      rw [ez,← ey]
      have:zL y.pure.at_ (o.a,(i:Int))=some e:=hf
      rw [this]
      simp only [hk,if_true]
     ·have hk:=of_decide_eq_false hk
      refine gz hT rfl ?_;conv=>whnf
      refine zB rfl (zU rfl rfl rfl (by dsimp only; omega)) ?_
      refine gz hT rfl ?_;conv=>whnf
      refine ⟨(i+1,y),⟨hy.mono (by dsimp only; omega),by dsimp only; omega,?_⟩,by dsimp only; omega,⟨lk rfl,lk rfl,lk rfl,lk rfl,lk rfl,lk rfl,trivial⟩,.refl _⟩
      dsimp only
      rw [← ey]
      have:zL y.pure.at_ (o.a,(i:Int))=some e:=hf
      rw [this]
      simp only [hk,if_false]
  ·simp only [decide_eq_false_iff_not,Int.ofNat_lt] at hlt
   have hie:i=(m.fn o.a).code.length:=by omega
   subst hie
   rw [List.drop_length] at ey
   refine gz hT rfl ?_;conv=>whnf
   exact zQ .nil ⟨y,hy,ey,rfl⟩
end
end Go.Vw
namespace Go.Vw
open Go.RowKit Go.Am Go.Proofs
attribute [local irreducible] yE zv zq VD VDn VDq Ret
def wg (a:Int):Int:=IntKind.i64.wrap (1 * 2 ^ (min (IntKind.u64.wrap a).toNat IntKind.i64.bits))
def MFunc.op (f:MFunc) (i:Int):MOp:=(f.code[i.toNat]?).getD ⟨0,0,0,0,0,0,0,0,[],0,0,0⟩
def xK (o:MOp) (l:P2):P2:=if o.kind=16 then (orI l.1 (wg o.a),orI l.2 (wg o.a)) else if o.kind=17 then (vX l.1 (wg o.a),vX l.2 (wg o.a)) else l
def xU (m:MModule) (x:Fp) (p:P2):Fp :=
 let o:=(m.fn p.1).op p.2
 let l:=(zL x.at_ p).getD (0,0)
 if o.kind=23 then ((y9 x.callers p.1).getD []).foldl (fun x b=>yP x b l) x
 else if o.kind=22 then callP m x p o l
 else yP (if o.kind=21 then yP x (p.1,o.els) l else x) (p.1,o.next) (xK o l)
section
variable {P:Program} {S:Hp} {o:Oper} {ρ:Operand→Option V}
theorem zBL {t z:TypeId} {x y:Operand} {a:Int} (ho:o.op = .binOp .shl t x y z) (hx:ρ x=some (.int .i64 1)) (hy:ρ y=some (.int .u64 (IntKind.u64.wrap a))):QG P o ρ S (.int .i64 (wg a)) :=
 g_int (u:=.int .i64 (wg a)) ho hx hy (by
  have:0≤IntKind.u64.wrap a:=by simp [IntKind.wrap,IntKind.bits,IntKind.signed]; omega
  simp only [wM,decide_eq_false (by omega:¬ IntKind.u64.wrap a < 0),cond_false]
  rfl)
end
section
variable [Drw] (hT:TabOk tab Tryz.prog)
include hT
set_option maxHeartbeats 2000000 in
theorem leave (m:MModule) (bx ba bc:Nat) {n:Nat} (x:Fd) (hx:FdOk n x) (p:P2) (hm:∀ f∈m.funcs,OkF f) (ha:zM m.funcs.length [p.1]=true) (hp:0≤p.2∧p.2 < (m.fn p.1).code.length)
  (hcall:((m.fn p.1).op p.2).kind=22→zM m.funcs.length [((m.fn p.1).op p.2).a]=true) (k:Nat) (hk:k=n+((wb x.callers p.1).map (·.2.length)).getD 0+5000) (hn:k≤60000000) :
  VC Tryz.prog 145 [.ptr bx 0,.agg (zh p)] (fdS m bx ba bc x) fun _ S'=>∃ y,FdOk k y∧y.pure=xU m x.pure p∧S'=fdS m bx ba bc y:=by
 have hlt:p.2.toNat < (m.fn p.1).code.length:=by omega
 have hop:((m.fn p.1).code.map opV)[p.2.toNat]?=some (opV ((m.fn p.1).op p.2)):=by
  unfold MFunc.op
  rw [List.getElem?_map,List.getElem?_eq_getElem hlt]; rfl
 have hlook:∃ r,LookV tab 256 (.agg (zh p)) (x.at_.map atE) r∧lookRes (.agg (zh (0,0))) false r = .agg (zh ((zL x.pure.at_ p).getD (0,0))):=by
  refine ⟨_,look67 p x.at_,?_⟩
  show lookRes _ false ((zL x.at_ p).map _) = .agg (zh ((zL x.at_ p).getD (0,0)))
  cases zL x.at_ p <;> rfl
 obtain ⟨r,hr,hres⟩:=hlook
 have hlook:∃ r tk ps,LookV tab 3 (.int .i64 p.1) (x.callers.map ua) r∧lookRes (.slice .zero []) false r = .slice tk (ps.map zh)∧(y9 x.pure.callers p.1).getD []=ps∧ps.length=((wb x.callers p.1).map (·.2.length)).getD 0:=by
  have e:y9 x.pure.callers p.1=(wb x.callers p.1).map (·.2):=zBK p.1 x.callers
  have l3:=look3 p.1 x.callers
  rw [e]
  cases hf:wb x.callers p.1 with
  | none=>exact ⟨_,.zero,[],by rw [hf] at l3; exact l3,rfl,rfl,rfl⟩
  | some c=>exact ⟨_,c.1,c.2,by rw [hf] at l3; exact l3,rfl,rfl,rfl⟩
 obtain ⟨r3,tk,ps,hr3,hres3,hps,hlen⟩:=hlook
 generalize ho:(m.fn p.1).op p.2=o at hop hcall
 generalize hlv:(zL x.pure.at_ p).getD (0,0)=l at hres
 refine VC.code hT 110 rfl rfl rfl rfl fun F W S0=>?_
 repeat' (first
  | (refine gz hT rfl ?_;conv=>whnf)
  | refine zA rfl (zN rfl rfl rfl ?_)
  | refine zA rfl (zH hT rfl rfl rfl rfl rfl rfl rfl rfl ?_)
  | refine zB rfl (zK hT rfl rfl rfl rfl rfl rfl (List.length_map _)) ?_
  | refine zG rfl rfl rfl rfl (fun h=>?_) (fun h=>?_))
 intro id
 refine kf 0 (fun b5:Nat=>([(0,.ptr bx 0),(3,.pin (zh p) 0),(4,.pin (opV o) 0),(5,.ptr b5 0)],.cells b5 (zh l) 258::fdS m bx ba bc x)) (fun _=>True) ?_ ?_
 ·refine zd hT rfl rfl ?_ id
  refine god hT 2 rfl ?_;conv=>whnf
  refine yD hT rfl rfl rfl .here rfl ?_
  refine god hT 2 rfl ?_;conv=>whnf
  refine q_g rfl (fun S'=>(xh hT rfl rfl rfl ha).qs) ?_
  refine god hT 2 rfl ?_;conv=>whnf
  refine q_g rfl (fun S'=>(zr (r:=opV o) hT rfl rfl rfl rfl rfl hp.1 hop rfl).qs) ?_
  refine god hT 2 rfl ?_;conv=>whnf
  refine yD hT rfl rfl rfl .here rfl ?_
  refine god hT 2 rfl ?_;conv=>whnf
  refine q_c (v:=.agg (zh l)) (fun S'=>∃ f',At S' (.map ba (x.at_.map atE)) f') rfl ⟨_,.there .here⟩ (fun S' ⟨_,hat⟩=>hres ▸ (yr (z:=.agg (zh (0,0))) hT rfl rfl rfl rfl rfl rfl hat hr).qs) ?_
  refine god hT 2 rfl ?_;conv=>whnf
  refine vd_eff2 rfl (eff rfl rfl (zX hT rfl rfl rfl fun b4=>And.intro (And.intro ⟨_,(.there (.there .here))⟩ (And.intro ⟨_,_,_,(.there .here),rfl⟩ (And.intro ⟨_,_,_,(.there .here),rfl⟩ trivial))) ?_)) (eff rfl rfl (zX hT rfl rfl rfl fun b5=>And.intro (And.intro ⟨_,(.there (.there .here))⟩ (And.intro ⟨_,_,_,(.there .here),rfl⟩ (And.intro ⟨_,_,_,(.there .here),rfl⟩ trivial))) ?_))
  ·refine god hT 2 rfl ?_;conv=>whnf
   refine zS rfl (eff rfl rfl (zX hT rfl rfl rfl fun b5=>And.intro (And.intro ⟨_,(.there (.there (.there .here)))⟩ (And.intro ⟨_,_,_,(.there (.there .here)),rfl⟩ (And.intro ⟨_,_,_,(.there (.there .here)),rfl⟩ trivial))) ?_))
   refine god hT 2 rfl ?_;conv=>whnf
   refine zS rfl (eff rfl rfl (zI (cs':=opV o) hT rfl rfl rfl (.there .here) rfl (And.intro (And.intro ⟨_,(.there (.there (.there .here)))⟩ (And.intro ⟨_,_,_,(.there (.there .here)),rfl⟩ trivial)) ?_)))
   refine god hT 2 rfl ?_;conv=>whnf
   refine zS rfl (eff rfl rfl (zI (cs':=zh l) hT rfl rfl rfl .here rfl (And.intro trivial ?_)))
   refine god hT 2 rfl ?_;conv=>whnf
   refine zV rfl ?_
   refine kb (t:=4) rfl (.there .here) ?_
   refine gz hT rfl ?_;conv=>whnf
   exact ⟨b5,trivial,⟨lk rfl,lk rfl,lk rfl,lk rfl,trivial⟩,.keep (.drop (.refl _))⟩
  ·refine god hT 2 rfl ?_;conv=>whnf
   refine zS rfl (eff rfl rfl (zX hT rfl rfl rfl fun b4=>And.intro (And.intro ⟨_,(.there (.there (.there .here)))⟩ (And.intro ⟨_,_,_,(.there (.there .here)),rfl⟩ (And.intro ⟨_,_,_,(.there (.there .here)),rfl⟩ trivial))) ?_))
   refine god hT 2 rfl ?_;conv=>whnf
   refine zS rfl (eff rfl rfl (zI (cs':=opV o) hT rfl rfl rfl .here rfl (And.intro (And.intro ⟨_,(.there (.there (.there .here)))⟩ (And.intro ⟨_,_,_,(.there (.there .here)),rfl⟩ trivial)) ?_)))
   refine god hT 2 rfl ?_;conv=>whnf
   refine zS rfl (eff rfl rfl (zI (cs':=zh l) hT rfl rfl rfl (.there .here) rfl (And.intro trivial ?_)))
   refine god hT 2 rfl ?_;conv=>whnf
   refine zV rfl ?_
   refine kb (t:=4) rfl .here ?_
   refine gz hT rfl ?_;conv=>whnf
   exact ⟨b5,trivial,⟨lk rfl,lk rfl,lk rfl,lk rfl,trivial⟩,.drop (.refl _)⟩
 ·intro b5 _
  refine gz hT rfl ?_;conv=>whnf
  refine zA rfl (zX hT rfl rfl rfl fun b6=>?_)
  refine gz hT rfl ?_;conv=>whnf
  refine zA rfl (zI (cs':=zh (p.1,o.next)) hT rfl rfl rfl .here rfl ?_)
  refine zo (t:=6) rfl ?_
  refine gz hT rfl ?_;conv=>whnf
  refine zC rfl (fun h23=>?_) (fun h23=>?_)
  ·have h23:=of_decide_eq_true h23
   refine gz hT rfl ?_;conv=>whnf
   intro id
   refine zd hT rfl rfl ?_ id
   refine god hT 2 rfl ?_;conv=>whnf
   refine yD hT rfl rfl rfl (.there .here) rfl ?_
   refine god hT 2 rfl ?_;conv=>whnf
   refine q_c (v:=.slice tk (ps.map zh)) (fun S'=>∃ f',At S' (.map bc (x.callers.map ua)) f') rfl ⟨_,.there (.there (.there .here))⟩ (fun S' ⟨_,hat⟩=>hres3 ▸ (yr (z:=.slice .zero []) hT rfl rfl rfl rfl rfl rfl hat hr3).qs) ?_
   repeat' (first
    | (refine god hT 2 rfl ?_;conv=>whnf)
    | refine zV rfl ?_
    | refine q_g rfl (fun S'=>(zK hT rfl rfl rfl rfl rfl rfl (List.length_map _)).qs) ?_
    | refine zk rfl rfl rfl rfl (fun h=>?_) (fun h=>?_))
   refine gz hT rfl ?_;conv=>whnf
   have step:∀ (u:Fp) (i:Nat) (h:i < ps.length),(ps.drop i).foldl (fun x b=>yP x b l) u=(ps.drop (i+1)).foldl (fun x b=>yP x b l) (yP u ps[i] l):=fun u i h=>by
    rw [List.drop_eq_getElem_cons h]; rfl
   refine zW (fun w:Nat×Fd=>([(0,.ptr bx 0),(5,.ptr b5 0),(44,.slice tk (ps.map zh)),(45,.int .i64 ps.length),(46,.int .i64 w.1)],.cells b5 (zh l) 258::fdS m bx ba bc w.2)) (fun w=>FdOk (n+w.1) w.2∧w.1≤ps.length∧(ps.drop w.1).foldl (fun x b=>yP x b l) w.2.pure=xU m x.pure p) (fun w=>ps.length - w.1) (0,x) ⟨hx,Nat.zero_le _,by simp only [xU,ho,hlv,h23,hps,if_true]; rfl⟩ ⟨⟨lk rfl,lk rfl,lk rfl,lk rfl,lk rfl,trivial⟩,.refl _⟩ ?_
   rintro ⟨i,y⟩ ⟨hy,hi,ey⟩
   dsimp only at hy hi ey
   refine gz hT rfl ?_;conv=>whnf
   refine zC rfl (fun hlt=>?_) (fun hlt=>?_)
   ·simp only [decide_eq_true_eq,Int.ofNat_lt] at hlt
    rw [step _ _ hlt] at ey
    refine gz hT rfl ?_;conv=>whnf
    refine zB rfl (zJ hT rfl rfl rfl rfl rfl hlt rfl) ?_
    refine gz hT rfl ?_;conv=>whnf
    refine zA rfl (zX hT rfl rfl rfl fun b8=>?_)
    refine gz hT rfl ?_;conv=>whnf
    refine zA rfl (zI (cs':=zh ps[i]) hT rfl rfl rfl .here rfl ?_)
    refine zo (t:=8) rfl ?_
    refine gz hT rfl ?_;conv=>whnf
    refine zB rfl (zT hT rfl rfl .here rfl) ?_
    refine gz hT rfl ?_;conv=>whnf
    refine zA rfl (yQ hT rfl rfl rfl rfl rfl rfl (VC.frame1 (come hT m bx ba bc y hy (by omega) ps[i] l) _ ?_))
    rintro v _ ⟨z,hz,ez,rfl⟩
    refine gz hT rfl ?_;conv=>whnf
    refine zB rfl (zU rfl rfl rfl (by dsimp only; omega)) ?_
    refine gz hT rfl ?_;conv=>whnf
    exact ⟨(i+1,z),⟨hz.mono (by dsimp only; omega),by dsimp only; omega,by dsimp only; rw [ez]; exact ey⟩,by dsimp only; omega,⟨lk rfl,lk rfl,lk rfl,lk rfl,lk rfl,trivial⟩,.refl _⟩
   ·simp only [decide_eq_false_iff_not,Int.ofNat_lt] at hlt
    have hie:i=ps.length:=by omega
    subst hie
    rw [List.drop_length] at ey
    refine wJ (.drop (.refl _)) ?_
    refine gz hT rfl ?_;conv=>whnf
    exact zQ .nil ⟨y,hy.mono (by omega),ey,rfl⟩
  have h23:=of_decide_eq_false h23
  refine gz hT rfl ?_;conv=>whnf
  refine zC rfl (fun h22=>?_) (fun h22=>?_)
  ·have h22:=of_decide_eq_true h22
   have hc:=(MModule.fn_ok hm (hcall h22)).code.2
   refine gz hT rfl ?_;conv=>whnf
   refine zB rfl (zT hT rfl rfl .here rfl) ?_
   refine gz hT rfl ?_;conv=>whnf
   refine zA rfl (yQ hT rfl rfl rfl rfl rfl rfl (VC.frame1 (call hT m bx ba bc x hx p l o (hcall h22) hc (by omega)) _ ?_))
   rintro v _ ⟨z,hz,ez,rfl⟩
   refine yC (.drop (.refl _)) ?_
   refine gz hT rfl ?_;conv=>whnf
   refine zQ .nil ⟨z,hz.mono (by omega),?_,rfl⟩
   rw [ez]
   simp only [xU,ho,hlv,h23,h22,Int.reduceEq,if_true,if_false]
  have h22:=of_decide_eq_false h22
  refine gz hT rfl ?_;conv=>whnf
  refine zC rfl (fun h16=>?_) (fun h16=>?_)
  ·have h16:=of_decide_eq_true h16
   have h21:¬ o.kind=21:=by omega
   refine gz hT rfl ?_;conv=>whnf
   refine zB rfl (zT hT rfl rfl .here rfl) ?_
   refine gz hT rfl ?_;conv=>whnf
   refine zB rfl (zBL rfl rfl rfl) ?_
   refine gz hT rfl ?_;conv=>whnf
   refine zB rfl (zT hT rfl rfl .here rfl) ?_
   refine gz hT rfl ?_;conv=>whnf
   refine zB rfl (zBL rfl rfl rfl) ?_
   refine gz hT rfl ?_;conv=>whnf
   refine zA rfl (zI (cs':=zh (orI l.1 (wg o.a),orI l.2 (wg o.a))) hT rfl rfl rfl .here rfl ?_)
   refine gz hT rfl ?_;conv=>whnf
   refine zB rfl (zT hT rfl rfl .here rfl) ?_
   refine gz hT rfl ?_;conv=>whnf
   refine zA rfl (yQ hT rfl rfl rfl rfl rfl rfl (VC.frame1 (come hT m bx ba bc x hx (by omega) (p.1,o.next) (orI l.1 (wg o.a),orI l.2 (wg o.a))) _ ?_))
   rintro v _ ⟨z,hz,ez,rfl⟩
   refine yC (.drop (.refl _)) ?_
   refine gz hT rfl ?_;conv=>whnf
   refine zQ .nil ⟨z,hz.mono (by omega),?_,rfl⟩
   rw [ez]
   simp only [xU,ho,hlv,xK,h23,h22,h16,h21,Int.reduceEq,if_true,if_false]
  have h16:=of_decide_eq_false h16
  refine gz hT rfl ?_;conv=>whnf
  refine zC rfl (fun h17=>?_) (fun h17=>?_)
  ·have h17:=of_decide_eq_true h17
   have h21:¬ o.kind=21:=by omega
   refine gz hT rfl ?_;conv=>whnf
   refine zB rfl (zT hT rfl rfl .here rfl) ?_
   refine gz hT rfl ?_;conv=>whnf
   refine zB rfl (zBL rfl rfl rfl) ?_
   refine gz hT rfl ?_;conv=>whnf
   refine zB rfl (zT hT rfl rfl .here rfl) ?_
   refine gz hT rfl ?_;conv=>whnf
   refine zB rfl (zBL rfl rfl rfl) ?_
   refine gz hT rfl ?_;conv=>whnf
   refine zA rfl (zI (cs':=zh (vX l.1 (wg o.a),vX l.2 (wg o.a))) hT rfl rfl rfl .here rfl ?_)
   refine gz hT rfl ?_;conv=>whnf
   refine zB rfl (zT hT rfl rfl .here rfl) ?_
   refine gz hT rfl ?_;conv=>whnf
   refine zA rfl (yQ hT rfl rfl rfl rfl rfl rfl (VC.frame1 (come hT m bx ba bc x hx (by omega) (p.1,o.next) (vX l.1 (wg o.a),vX l.2 (wg o.a))) _ ?_))
   rintro v _ ⟨z,hz,ez,rfl⟩
   refine yC (.drop (.refl _)) ?_
   refine gz hT rfl ?_;conv=>whnf
   refine zQ .nil ⟨z,hz.mono (by omega),?_,rfl⟩
   rw [ez]
   simp only [xU,ho,hlv,xK,h23,h22,h16,h17,h21,Int.reduceEq,if_true,if_false]
  have h17:=of_decide_eq_false h17
  refine gz hT rfl ?_;conv=>whnf
  refine zC rfl (fun h21=>?_) (fun h21=>?_)
  ·have h21:=of_decide_eq_true h21
   refine gz hT rfl ?_;conv=>whnf
   refine zB rfl (zT hT rfl rfl .here rfl) ?_
   refine gz hT rfl ?_;conv=>whnf
   refine zA rfl (yQ hT rfl rfl rfl rfl rfl rfl (VC.frame1 (come hT m bx ba bc x hx (by omega) (p.1,o.els) l) _ ?_))
   rintro v _ ⟨y,hy,ey,rfl⟩
   refine gz hT rfl ?_;conv=>whnf
   refine zB rfl (zT hT rfl rfl .here rfl) ?_
   refine gz hT rfl ?_;conv=>whnf
   refine zA rfl (yQ hT rfl rfl rfl rfl rfl rfl (VC.frame1 (come hT m bx ba bc y hy (by omega) (p.1,o.next) l) _ ?_))
   rintro v _ ⟨z,hz,ez,rfl⟩
   refine yC (.drop (.refl _)) ?_
   refine gz hT rfl ?_;conv=>whnf
   refine zQ .nil ⟨z,hz.mono (by omega),?_,rfl⟩
   rw [ez]
   rw [ey]
   simp only [xU,ho,hlv,xK,h23,h22,h16,h17,h21,Int.reduceEq,if_true,if_false]
  have h21:=of_decide_eq_false h21
  refine gz hT rfl ?_;conv=>whnf
  refine zB rfl (zT hT rfl rfl .here rfl) ?_
  refine gz hT rfl ?_;conv=>whnf
  refine zA rfl (yQ hT rfl rfl rfl rfl rfl rfl (VC.frame1 (come hT m bx ba bc x hx (by omega) (p.1,o.next) l) _ ?_))
  rintro v _ ⟨z,hz,ez,rfl⟩
  refine yC (.drop (.refl _)) ?_
  refine gz hT rfl ?_;conv=>whnf
  refine zQ .nil ⟨z,hz.mono (by omega),?_,rfl⟩
  rw [ez]
  simp only [xU,ho,hlv,xK,h23,h22,h16,h17,h21,Int.reduceEq,if_true,if_false]
end
end Go.Vw
namespace Go.Vw
open Go.RowKit Go.Am Go.Proofs
attribute [local irreducible] yE zv zq VD VDn VDq Ret
def zAl (i:Int):V×V:=(.int .i64 i,.bool true)
theorem look71 (f:Int):∀ s:List Int,LookV tab 3 (.int .i64 f) (s.map zAl) (if f∈s then some (.bool true) else none)
 | []=>by rw [if_neg (by simp)]; exact .nil
 | x::s=>by
   by_cases h:f=x
   ·rw [if_pos (by simp [h])]
    exact .hit (by rw [key3,decide_eq_true h])
   ·have:=look71 f s
    by_cases hm:f∈s
    ·rw [if_pos hm] at this
     rw [if_pos (List.mem_cons_of_mem _ hm)]
     exact .miss (by rw [key3,decide_eq_false h]) this
    ·rw [if_neg hm] at this
     rw [if_neg (by simp [h,hm])]
     exact .miss (by rw [key3,decide_eq_false h]) this
theorem put71 (f:Int):∀ s:List Int,f ∉ s→PutV tab 3 (.int .i64 f) (.bool true) (s.map zAl) ((s++[f]).map zAl)
 | [],_=>.nil
 | x::s,h=>by
   simp only [List.mem_cons,not_or] at h
   exact .miss (by rw [key3,decide_eq_false h.1]) (put71 f s h.2)
def yR (m:MModule):Nat→Int→List Int→List Int
 | 0,_,s=>s
 | k+1,f,s=>if f∈s then s else (m.fn f).code.foldl (fun s o=>if o.kind=22 then yR m k o.a s else s) (s++[f])
def qt (m:MModule) (s:List Int):Nat:=(List.range m.funcs.length).countP fun (i:Nat)=>!(s.contains (i:Int))
theorem countP_lt {α:Type} {p q:α→Bool}:∀ {l:List α},(∀ x,p x=true→q x=true)→(∃ x∈l,q x=true∧p x=false)→l.countP p < l.countP q
 | [],_,⟨x,h,_⟩=>by cases h
 | y::l,hpq,⟨x,hx,h1,h2⟩=>by
   have mono:l.countP p≤l.countP q:=List.countP_mono_left fun x _ h=>hpq x h
   rw [List.countP_cons,List.countP_cons]
   rcases List.mem_cons.1 hx with rfl | hx
   ·rw [if_pos h1,if_neg (by rw [h2]; decide)]; omega
   ·have ih:=countP_lt hpq ⟨x,hx,h1,h2⟩
    by_cases hp:p y=true
    ·rw [if_pos hp,if_pos (hpq y hp)]; omega
    ·rw [if_neg hp]; split <;> omega
theorem zDT {m:MModule} {s t:List Int} (h:∀ x∈s,x∈t):qt m t≤qt m s:=List.countP_mono_left fun i _ hi=>by
 simp only [Bool.not_eq_true',List.contains_eq_mem,decide_eq_false_iff_not] at hi ⊢
 exact fun hm=>hi (h _ hm)
theorem zEx {m:MModule} {s:List Int} {f:Int} (hf:zM m.funcs.length [f]=true) (h:f ∉ s):qt m (s++[f]) < qt m s:=by
 have hb:=belowB_one.1 hf
 refine countP_lt (fun i hi=>?_) ⟨f.toNat,List.mem_range.2 (by omega),?_,?_⟩
 ·simp only [Bool.not_eq_true',List.contains_eq_mem,decide_eq_false_iff_not,List.mem_append,not_or] at hi ⊢
  exact hi.1
 ·rw [Int.toNat_of_nonneg hb.1]
  simp [h]
 ·rw [Int.toNat_of_nonneg hb.1]
  simp
theorem qu (m:MModule):∀ (k:Nat) (f:Int) (s:List Int),∀ x∈s,x∈yR m k f s
 | 0,_,_,_,h=>h
 | k+1,f,s,x,h=>by
   unfold yR
   split
   ·exact h
   ·have key:∀ (c:List MOp) (s:List Int),x∈s→x∈c.foldl (fun s o=>if o.kind=22 then yR m k o.a s else s) s:=fun c=>by
     induction c with
     | nil=>intro s h; exact h
     | cons o c ih =>
       intro s h
       refine ih _ ?_
       dsimp only
       split
       ·exact qu m k o.a s x h
       ·exact h
    exact key _ _ (List.mem_append_left _ h)
section
variable [Drw] (hT:TabOk tab Tryz.prog)
include hT
theorem called (m:MModule) (hm:∀ f∈m.funcs,OkF f) (hcall:∀ f∈m.funcs,∀ o∈f.code,o.kind=22→zM m.funcs.length [o.a]=true) (bs:Nat):∀ (k:Nat) (f:Int) (s:List Int),zM m.funcs.length [f]=true→qt m s < k →
  VC Tryz.prog 146 [.agg (ze m),.int .i64 f,.map bs] [.map bs (s.map zAl)] fun _ S'=>S'=[.map bs ((yR m k f s).map zAl)]
 | 0,f,s,_,hk=>by omega
 | k+1,f,s,hf,hk=>by
   have hl:=look71 f s
   refine VC.code hT 33 rfl rfl rfl rfl fun F W S0=>?_
   refine gz hT rfl ?_;conv=>whnf
   refine zA rfl (zN rfl rfl rfl ?_)
   refine gz hT rfl ?_;conv=>whnf
   by_cases hs:f∈s
   ·rw [if_pos hs] at hl
    refine zB rfl (yr hT rfl rfl rfl rfl rfl rfl .here hl) ?_
    refine gz hT rfl ?_;conv=>whnf
    refine zQ .nil ?_
    unfold yR
    rw [if_pos hs]
   ·rw [if_neg hs] at hl
    have hmem:m.fn f∈m.funcs:=by
     have hb:=belowB_one.1 hf
     have hi:f.toNat < m.funcs.length:=by omega
     unfold MModule.fn
     rw [List.getElem?_eq_getElem hi]
     exact List.getElem_mem hi
    have hcode:=(hm _ hmem).code.2
    refine zB rfl (yr hT rfl rfl rfl rfl rfl rfl .here hl) ?_
    refine gz hT rfl ?_;conv=>whnf
    refine zA rfl (wX hT (.inl rfl) rfl rfl rfl rfl rfl .here (put71 f s hs) ?_)
    refine gz hT rfl ?_;conv=>whnf
    refine zB rfl (xh hT rfl rfl rfl hf) ?_
    refine gz hT rfl ?_;conv=>whnf
    refine zB rfl (zK hT rfl rfl rfl rfl rfl rfl (List.length_map _)) ?_
    refine gz hT rfl ?_;conv=>whnf
    have hlt0:=zEx hf hs
    refine zW (fun w:Nat×List Int=>([(2,.map bs),(3,.pin (ze m) 0),(18,.slice .no ((m.fn f).code.map opV)),(19,.int .i64 (m.fn f).code.length),(20,.int .i64 w.1)],[.map bs (w.2.map zAl)])) (fun w=>(∀ x∈s++[f],x∈w.2)∧w.1≤(m.fn f).code.length∧((m.fn f).code.drop w.1).foldl (fun s o=>if o.kind=22 then yR m k o.a s else s) w.2=yR m (k+1) f s) (fun w=>(m.fn f).code.length - w.1) (0,s++[f]) ⟨fun x h=>h,Nat.zero_le _,by rw [yR,if_neg hs]; rfl⟩ ⟨⟨lk rfl,lk rfl,lk rfl,lk rfl,lk rfl,trivial⟩,.refl _⟩ ?_
    rintro ⟨i,s'⟩ ⟨hsub,hi,ey⟩
    dsimp only at hsub hi ey
    refine gz hT rfl ?_;conv=>whnf
    refine zC rfl (fun hlt=>?_) (fun hlt=>?_)
    ·simp only [decide_eq_true_eq,Int.ofNat_lt] at hlt
     have hin:=List.getElem_mem hlt
     rw [List.drop_eq_getElem_cons hlt,List.foldl_cons] at ey
     refine gz hT rfl ?_;conv=>whnf
     refine zB rfl (zJ hT rfl rfl rfl rfl rfl hlt rfl) ?_
     refine gz hT rfl ?_;conv=>whnf
     refine zA rfl (zX hT rfl rfl rfl fun b7=>?_)
     refine gz hT rfl ?_;conv=>whnf
     refine zA rfl (zI (cs':=opV (m.fn f).code[i]) hT rfl rfl rfl .here rfl ?_)
     refine zo (t:=7) rfl ?_
     refine gz hT rfl ?_;conv=>whnf
     refine zC rfl (fun hk22=>?_) (fun hk22=>?_)
     ·have hk22:=of_decide_eq_true hk22
      rw [if_pos hk22] at ey
      refine gz hT rfl ?_;conv=>whnf
      refine zA rfl (yQ hT rfl rfl rfl rfl rfl rfl ((called m hm hcall bs k _ s' (hcall _ hmem _ hin hk22) (by have:=zDT (m:=m) hsub; omega)).mono ?_))
      rintro v _ rfl
      refine gz hT rfl ?_;conv=>whnf
      refine zB rfl (zU rfl rfl rfl (by dsimp only; omega)) ?_
      refine gz hT rfl ?_;conv=>whnf
      exact ⟨(i+1,yR m k (m.fn f).code[i].a s'),⟨fun x h=>qu m k _ _ x (hsub x h),by dsimp only; omega,ey⟩,by dsimp only; omega,⟨lk rfl,lk rfl,lk rfl,lk rfl,lk rfl,trivial⟩,.refl _⟩
     ·have hk22:=of_decide_eq_false hk22
      rw [if_neg hk22] at ey
      refine gz hT rfl ?_;conv=>whnf
      refine zB rfl (zU rfl rfl rfl (by dsimp only; omega)) ?_
      refine gz hT rfl ?_;conv=>whnf
      exact ⟨(i+1,s'),⟨hsub,by dsimp only; omega,ey⟩,by dsimp only; omega,⟨lk rfl,lk rfl,lk rfl,lk rfl,lk rfl,trivial⟩,.refl _⟩
    ·simp only [decide_eq_false_iff_not,Int.ofNat_lt] at hlt
     have hie:i=(m.fn f).code.length:=by omega
     subst hie
     rw [List.drop_length] at ey
     refine gz hT rfl ?_;conv=>whnf
     refine zQ .nil ?_
     have ey:s'=yR m (k+1) f s:=ey
     rw [ey]
end
end Go.Vw
namespace Go.Vw
open Go.RowKit Go.Am Go.Proofs
theorem wA (u:Nat):BitVec.ofInt IntKind.i64.bits (u:Int)=BitVec.ofNat 64 u:=by
 apply BitVec.eq_of_toNat_eq
 simp [IntKind.bits]
theorem ub {w:Nat} (h:w < 256):IntKind.i64.wrap (w:Int)=w:=by rw [IntKind.wrap_i64]; omega
theorem yi {u:Nat} (h:∀ i,u.testBit i=true→i < 8):u < 256:=by
 refine Nat.lt_pow_two_of_testBit (n:=8) u fun i hi=>?_
 cases hb:u.testBit i
 ·rfl
 ·have:=h i hb; omega
theorem uc {u v:Nat} (hu:u < 256) (hv:v < 256):ym u v=((u &&& v:Nat):Int):=by
 have h1:u &&& v < 256:=Nat.lt_of_le_of_lt Nat.and_le_left hu
 unfold ym
 rw [wA,wA]
 have:(BitVec.ofNat 64 u &&& BitVec.ofNat 64 v).toNat=u &&& v:=by
  rw [BitVec.toNat_and,BitVec.toNat_ofNat,BitVec.toNat_ofNat,Nat.mod_eq_of_lt (by omega),Nat.mod_eq_of_lt (by omega)]
 show IntKind.i64.wrap ((BitVec.ofNat 64 u &&& BitVec.ofNat 64 v).toNat:Int)=_
 rw [this]; exact ub h1
theorem uH {u v:Nat} (hu:u < 256) (hv:v < 256):orI u v=((u ||| v:Nat):Int):=by
 have h1:u ||| v < 256:=Nat.or_lt_two_pow (n:=8) hu hv
 unfold orI
 rw [wA,wA]
 have:(BitVec.ofNat 64 u ||| BitVec.ofNat 64 v).toNat=u ||| v:=by
  rw [BitVec.toNat_or,BitVec.toNat_ofNat,BitVec.toNat_ofNat,Nat.mod_eq_of_lt (by omega),Nat.mod_eq_of_lt (by omega)]
 show IntKind.i64.wrap ((BitVec.ofNat 64 u ||| BitVec.ofNat 64 v).toNat:Int)=_
 rw [this]; exact ub h1
theorem wc {u v:Nat} (hu:u < 256) (_hv:v < 256):∃ w:Nat,vX u v=(w:Int)∧∀ i,w.testBit i=(u.testBit i && !v.testBit i):=by
 refine ⟨(BitVec.ofNat 64 u &&& ~~~(BitVec.ofNat 64 v)).toNat,?_,fun i=>?_⟩
 ·unfold vX
  rw [wA,wA]
  refine ub ?_
  show (BitVec.ofNat 64 u &&& ~~~(BitVec.ofNat 64 v):BitVec 64).toNat < 256
  rw [BitVec.toNat_and,BitVec.toNat_ofNat,Nat.mod_eq_of_lt (by omega:u < 2 ^ 64)]
  exact Nat.lt_of_le_of_lt Nat.and_le_left hu
 ·rw [BitVec.testBit_toNat]
  by_cases hi:i < 64
  ·rw [BitVec.getLsbD_and,BitVec.getLsbD_not,BitVec.getLsbD_ofNat,BitVec.getLsbD_ofNat]
   simp [hi]
  ·have:u.testBit i=false:=Nat.testBit_lt_two_pow (Nat.lt_of_lt_of_le hu (by
    have:(2:Nat) ^ 8≤2 ^ i:=Nat.pow_le_pow_right (by omega) (by omega)
    omega))
   rw [this]
   simp [hi]
theorem kn {a:Int} (h:0≤a∧a < 8):wg a=((2 ^ a.toNat:Nat):Int):=by
 have:a=0∨a=1∨a=2∨a=3∨a=4∨a=5∨a=6∨a=7:=by omega
 rcases this with rfl | rfl | rfl | rfl | rfl | rfl | rfl | rfl <;> rfl
structure LockOk (L:Nat) (l:P2):Prop where
 ex:∃ u v:Nat,l=((u:Int),(v:Int))∧(∀ i,u.testBit i=true→v.testBit i=true)∧∀ i,v.testBit i=true→i < L
theorem LockOk.meet {L:Nat} (hL:L≤8) {l o:P2} (hl:LockOk L l) (ho:LockOk L o):LockOk L (ym l.1 o.1,orI l.2 o.2)∧((ym l.1 o.1,orI l.2 o.2)=o∨(ym l.1 o.1)+255 - (orI l.2 o.2) < o.1+255 - o.2)∧ym l.1 o.1≤o.1:=by
 obtain ⟨u,v,rfl,a1,a2⟩:=hl.ex
 obtain ⟨u',v',rfl,b1,b2⟩:=ho.ex
 have hu:u < 256:=yi fun i hi=>by have:=a2 i (a1 i hi); omega
 have hv:v < 256:=yi fun i hi=>by have:=a2 i hi; omega
 have hu':u' < 256:=yi fun i hi=>by have:=b2 i (b1 i hi); omega
 have hv':v' < 256:=yi fun i hi=>by have:=b2 i hi; omega
 dsimp only
 rw [uc hu hu',uH hv hv']
 have h1:u &&& u'≤u':=Nat.and_le_right
 have h2:v'≤v ||| v':=Nat.right_le_or
 refine ⟨⟨_,_,rfl,fun i hi=>?_,fun i hi=>?_⟩,?_,by omega⟩
 ·rw [Nat.testBit_and,Bool.and_eq_true] at hi
  rw [Nat.testBit_or,a1 i hi.1]; rfl
 ·rw [Nat.testBit_or,Bool.or_eq_true] at hi
  rcases hi with hi | hi
  ·exact a2 i hi
  ·exact b2 i hi
 ·by_cases he:u &&& u'=u'∧v ||| v'=v'
  ·exact .inl (by rw [he.1,he.2])
  ·refine .inr ?_
   by_cases h3:u &&& u'=u'
   ·have h4:¬ v ||| v'=v':=fun h=>he ⟨h3,h⟩
    omega
   ·omega
theorem LockOk.leave {L:Nat} (hL:L≤8) {l:P2} {o:MOp} (hl:LockOk L l) (ha:o.kind=16∨o.kind=17→0≤o.a∧o.a < L):LockOk L (xK o l):=by
 obtain ⟨u,v,rfl,a1,a2⟩:=hl.ex
 have hu:u < 256:=yi fun i hi=>by have:=a2 i (a1 i hi); omega
 have hv:v < 256:=yi fun i hi=>by have:=a2 i hi; omega
 have hp:∀ {a:Int},0≤a∧a < L→(2 ^ a.toNat:Nat) < 256:=fun {a} h=>by
  have:(2:Nat) ^ a.toNat < 2 ^ 8:=Nat.pow_lt_pow_right (by omega) (by omega)
  exact this
 unfold xK
 by_cases h16:o.kind=16
 ·have hb:=ha (.inl h16)
  rw [if_pos h16]
  dsimp only
  rw [kn (by omega),uH hu (hp hb),uH hv (hp hb)]
  refine ⟨_,_,rfl,fun i hi=>?_,fun i hi=>?_⟩
  ·rw [Nat.testBit_or,Bool.or_eq_true] at hi ⊢
   exact hi.imp (a1 i) id
  ·rw [Nat.testBit_or,Bool.or_eq_true] at hi
   rcases hi with hi | hi
   ·exact a2 i hi
   ·rw [Nat.testBit_two_pow,decide_eq_true_eq] at hi; omega
 ·rw [if_neg h16]
  by_cases h17:o.kind=17
  ·have hb:=ha (.inr h17)
   rw [if_pos h17]
   dsimp only
   rw [kn (by omega)]
   obtain ⟨w,e1,w1⟩:=wc hu (hp hb)
   obtain ⟨z,e2,z1⟩:=wc hv (hp hb)
   rw [e1,e2]
   refine ⟨_,_,rfl,fun i hi=>?_,fun i hi=>?_⟩
   ·rw [w1,Bool.and_eq_true] at hi
    rw [z1,a1 i hi.1,hi.2]; rfl
   ·rw [z1,Bool.and_eq_true] at hi
    exact a2 i hi.1
  ·rw [if_neg h17]
   exact ⟨u,v,rfl,a1,a2⟩
end Go.Vw
namespace Go.Vw
open Go.RowKit Go.Am Go.Proofs
def xA (m:MModule) (p:P2):Prop:=zM m.funcs.length [p.1]=true∧0≤p.2∧p.2 < (m.fn p.1).code.length
def ud (m:MModule):List P2:=(List.range m.funcs.length).flatMap fun (f:Nat)=>(List.range (m.fn (f:Int)).code.length).map fun (n:Nat)=>((f:Int),(n:Int))
theorem valid_mem {m:MModule} {p:P2} (h:xA m p):p∈ud m:=by
 obtain ⟨h1,h2,h3⟩:=h
 have hb:=belowB_one.1 h1
 refine List.mem_flatMap.2 ⟨p.1.toNat,List.mem_range.2 (by omega),List.mem_map.2 ⟨p.2.toNat,List.mem_range.2 ?_,?_⟩⟩
 ·rw [Int.toNat_of_nonneg hb.1]; omega
 ·rw [Int.toNat_of_nonneg hb.1,Int.toNat_of_nonneg h2]
def hgt:Option P2→Nat
 | none=>512
 | some l=>(l.1+255 - l.2).toNat
def pot (m:MModule) (A:AtM):Nat:=((ud m).map fun p=>hgt (zL A p)).sum
theorem sum_le {α:Type} {f g:α→Nat}:∀ {l:List α},(∀ x∈l,f x≤g x)→(l.map f).sum≤(l.map g).sum
 | [],_=>Nat.le_refl _
 | y::l,h=>by
   have:=sum_le (l:=l) fun x hx=>h x (List.mem_cons_of_mem _ hx)
   have:=h y (List.mem_cons_self ..)
   simp only [List.map_cons,List.sum_cons]
   omega
theorem sum_lt {α:Type} {f g:α→Nat}:∀ {l:List α},(∀ x∈l,f x≤g x)→(∃ x∈l,f x < g x)→(l.map f).sum < (l.map g).sum
 | [],_,⟨x,h,_⟩=>by cases h
 | y::l,h,⟨x,hx,hlt⟩=>by
   have h1:=sum_le (l:=l) fun x hx=>h x (List.mem_cons_of_mem _ hx)
   have h2:=h y (List.mem_cons_self ..)
   simp only [List.map_cons,List.sum_cons]
   rcases List.mem_cons.1 hx with rfl | hx
   ·omega
   ·have:=sum_lt (l:=l) (fun x hx=>h x (List.mem_cons_of_mem _ hx)) ⟨x,hx,hlt⟩
    omega
theorem pot_put {m:MModule} {A:AtM} {p l:P2} (hp:xA m p) (h:hgt (some l) < hgt (zL A p)):pot m (ul A p l) < pot m A:=by
 refine sum_lt (fun q _=>?_) ⟨p,valid_mem hp,?_⟩
 ·rw [yW]
  split
  ·next e=>subst e; omega
  ·exact Nat.le_refl _
 ·rw [yW,if_pos rfl]; exact h
structure Inv (m:MModule) (L:Nat) (x:Fp):Prop where
 at_:∀ p l,zL x.at_ p=some l→xA m p∧LockOk L l
 row:∀ p∈x.row,xA m p
 callers:∀ c∈x.callers,c.2.Nodup∧∀ b∈c.2,xA m b
def mu (m:MModule) (x:Fp):Nat:=x.row.length+2 * pot m x.at_
theorem wB {L:Nat} (hL:L≤8) {l:P2} (h:LockOk L l):0≤l.1∧0≤l.2∧l.1≤l.2∧l.2≤255:=by
 obtain ⟨u,v,rfl,a1,a2⟩:=h.ex
 have hv:v < 256:=yi fun i hi=>by have:=a2 i hi; omega
 have:u &&& v=u:=Nat.eq_of_testBit_eq fun i=>by
  rw [Nat.testBit_and]
  cases hb:u.testBit i
  ·rfl
  ·rw [a1 i hb]; rfl
 have h2:u≤v:=by rw [← this]; exact Nat.and_le_right
 exact ⟨by omega,by omega,by dsimp only; omega,by dsimp only; omega⟩
theorem ww {m:MModule} {L:Nat} (hL:L≤8) {x:Fp} (hx:Inv m L x) {p l:P2} (hp:xA m p) (hl:LockOk L l):Inv m L (yP x p l)∧mu m (yP x p l)≤mu m x:=by
 unfold yP
 by_cases hc:zL x.at_ p=some (meet x.at_ p l)
 ·rw [if_pos hc]; exact ⟨hx,Nat.le_refl _⟩
 ·rw [if_neg hc]
  have hm:LockOk L (meet x.at_ p l)∧hgt (some (meet x.at_ p l)) < hgt (zL x.at_ p):=by
   cases hf:zL x.at_ p with
   | none =>
     have e:meet x.at_ p l=l:=by unfold meet; rw [hf]
     rw [e]
     have:=wB hL hl
     exact ⟨hl,by show (l.1+255 - l.2).toNat < 512; omega⟩
   | some o =>
     have e:meet x.at_ p l=(ym l.1 o.1,orI l.2 o.2):=by unfold meet; rw [hf]
     have ho:=(hx.at_ p o hf).2
     obtain ⟨k1,k2,_⟩:=hl.meet hL ho
     rw [e]
     refine ⟨k1,?_⟩
     have r1:=wB hL k1
     rcases k2 with k2 | k2
     ·rw [hf,e,k2] at hc; exact absurd rfl hc
     ·show (ym l.1 o.1+255 - orI l.2 o.2).toNat < (o.1+255 - o.2).toNat
      dsimp only at r1
      omega
  refine ⟨⟨fun q k hq=>?_,fun q hq=>?_,hx.callers⟩,?_⟩
  ·dsimp only at hq
   rw [yW] at hq
   split at hq
   ·next e=>subst e; cases hq; exact ⟨hp,hm.1⟩
   ·exact hx.at_ q k hq
  ·rcases List.mem_append.1 hq with hq | hq
   ·exact hx.row q hq
   ·rw [List.mem_singleton.1 hq]; exact hp
  ·have:=pot_put (A:=x.at_) hp hm.2
   show (x.row++[p]).length+2 * pot m (ul x.at_ p (meet x.at_ p l))≤x.row.length+2 * pot m x.at_
   rw [List.length_append,List.length_singleton]
   omega
theorem ko (a a':Int) (b:P2):∀ C:List (Int×List P2),y9 (addP C a b) a'=if a'=a then some ((y9 C a).getD []++[b]) else y9 C a'
 | []=>by
   simp only [addP,y9]
   split <;> rfl
 | c::r=>by
   unfold addP
   by_cases h:a=c.1
   ·rw [if_pos h]
    simp only [y9,if_pos h]
    by_cases ha:a'=a
    ·rw [if_pos ha,if_pos ha]; rfl
    ·rw [if_neg ha,if_neg ha,if_neg (by rw [← h]; exact ha)]
   ·rw [if_neg h]
    simp only [y9,if_neg h,ko a a' b r]
    by_cases ha:a'=c.1
    ·rw [if_pos ha,if_pos ha,if_neg (by rw [ha]; exact fun e=>h e.symm)]
    ·rw [if_neg ha,if_neg ha]
theorem zCl:∀ {C:List (Int×List P2)} {a:Int} {ps:List P2},y9 C a=some ps→∃ a',(a',ps)∈C
 | [],_,_,h=>by cases h
 | x::r,a,c,h=>by
   unfold y9 at h
   by_cases hc:a=x.1
   ·rw [if_pos hc] at h
    exact ⟨x.1,by rw [← Option.some.inj h]; exact List.mem_cons_self ..⟩
   ·rw [if_neg hc] at h
    obtain ⟨a',h'⟩:=zCl h
    exact ⟨a',List.mem_cons_of_mem _ h'⟩
theorem mem_addP {a:Int} {b:P2}:∀ {C:List (Int×List P2)} {c:Int×List P2},c∈addP C a b→c∈C∨c.2=(y9 C a).getD []++[b]
 | [],c,h=>by
   rcases List.mem_cons.1 h with rfl | h
   ·exact .inr rfl
   ·cases h
 | x::r,c,h=>by
   unfold addP at h
   unfold y9
   by_cases ha:a=x.1
   ·rw [if_pos ha] at h ⊢
    rcases List.mem_cons.1 h with rfl | h
    ·exact .inr rfl
    ·exact .inl (List.mem_cons_of_mem _ h)
   ·rw [if_neg ha] at h ⊢
    rcases List.mem_cons.1 h with rfl | h
    ·exact .inl (List.mem_cons_self ..)
    ·exact (mem_addP h).imp (List.mem_cons_of_mem _) id
theorem inv_back {m:MModule} {L:Nat} {x:Fp} (hx:Inv m L x) {a:Int} {b:P2} (hb:xA m b):Inv m L (yJ x a b)∧mu m (yJ x a b)=mu m x:=by
 unfold yJ
 split
 ·exact ⟨hx,rfl⟩
 ·next hnot =>
  refine ⟨⟨hx.at_,hx.row,fun c hc=>?_⟩,rfl⟩
  rcases mem_addP hc with hc | hc
  ·exact hx.callers c hc
  ·have hb0:b ∉ (y9 x.callers a).getD []:=fun hm=>hnot (by
    rw [List.any_eq_true]
    exact ⟨b,hm,decide_eq_true rfl⟩)
   have old:((y9 x.callers a).getD []).Nodup∧∀ c∈(y9 x.callers a).getD [],xA m c:=by
    cases hf:y9 x.callers a with
    | none=>exact ⟨List.nodup_nil,fun c hc=>by cases hc⟩
    | some qs =>
      obtain ⟨a',hm⟩:=zCl hf
      exact hx.callers _ hm
   rw [hc]
   refine ⟨?_,fun c hc=>?_⟩
   ·rw [List.nodup_append]
    exact ⟨old.1,by simp,fun u hu v hv e=>by rw [List.mem_singleton.1 hv] at e; subst e; exact hb0 hu⟩
   ·rcases List.mem_append.1 hc with hc | hc
    ·exact old.2 c hc
    ·rw [List.mem_singleton.1 hc]; exact hb
theorem inv_ret {m:MModule} {L:Nat} (hL:L≤8) {a:Int} {b:P2} (hb:xA m b):∀ (c:List MOp) (i:Nat) {x:Fp},Inv m L x→Inv m L (yI x a b i c)∧mu m (yI x a b i c)≤mu m x
 | [],_,x,hx=>⟨hx,Nat.le_refl _⟩
 | o::c,i,x,hx=>by
   unfold yI
   cases hf:zL x.at_ (a,(i:Int)) with
   | none=>exact inv_ret hL hb c (i+1) hx
   | some e =>
     dsimp only
     split
     ·obtain ⟨h1,h2⟩:=ww hL hx hb (hx.at_ _ _ hf).2
      obtain ⟨h3,h4⟩:=inv_ret hL hb c (i+1) h1
      exact ⟨h3,Nat.le_trans h4 h2⟩
     ·exact inv_ret hL hb c (i+1) hx
theorem inv_fold {m:MModule} {L:Nat} (hL:L≤8) {l:P2} (hl:LockOk L l):∀ (ps:List P2) {x:Fp},(∀ b∈ps,xA m b)→Inv m L x→Inv m L (ps.foldl (fun x b=>yP x b l) x)∧mu m (ps.foldl (fun x b=>yP x b l) x)≤mu m x
 | [],x,_,hx=>⟨hx,Nat.le_refl _⟩
 | b::ps,x,hps,hx=>by
   obtain ⟨h1,h2⟩:=ww hL hx (hps b (List.mem_cons_self ..)) hl
   obtain ⟨h3,h4⟩:=inv_fold hL hl ps (fun c hc=>hps c (List.mem_cons_of_mem _ hc)) h1
   exact ⟨h3,Nat.le_trans h4 h2⟩
structure OpFacts (m:MModule) (L:Nat) (p:P2) (o:MOp):Prop where
 next:o.kind≠23→xA m (p.1,o.next)
 els:o.kind=21→xA m (p.1,o.els)
 call:o.kind=22→zM m.funcs.length [o.a]=true∧xA m (o.a,0)
 lock:o.kind=16∨o.kind=17→0≤o.a∧o.a < L
theorem qU {m:MModule} {L:Nat} (hL:L≤8) {x:Fp} (hx:Inv m L x) {p:P2} (ho:OpFacts m L p ((m.fn p.1).op p.2)):Inv m L (xU m x p)∧mu m (xU m x p)≤mu m x:=by
 have hl:LockOk L ((zL x.at_ p).getD (0,0)):=by
  cases hf:zL x.at_ p with
  | none=>exact ⟨0,0,rfl,fun i h=>h,fun i h=>by simp at h⟩
  | some l=>exact (hx.at_ p l hf).2
 unfold xU
 generalize (m.fn p.1).op p.2=o at ho
 dsimp only
 by_cases h23:o.kind=23
 ·rw [if_pos h23]
  refine inv_fold hL hl _ (fun b hb=>?_) hx
  cases hf:y9 x.callers p.1 with
  | none=>rw [hf] at hb; cases hb
  | some ps =>
    rw [hf] at hb
    obtain ⟨a',hm⟩:=zCl hf
    exact (hx.callers _ hm).2 b hb
 ·rw [if_neg h23]
  have hn:=ho.next h23
  by_cases h22:o.kind=22
  ·rw [if_pos h22]
   unfold callP
   obtain ⟨k1,k2⟩:=inv_back hx (a:=o.a) hn
   obtain ⟨k3,k4⟩:=ww hL k1 (ho.call h22).2 hl
   obtain ⟨k5,k6⟩:=inv_ret hL (a:=o.a) hn (m.fn o.a).code 0 k3
   exact ⟨k5,by omega⟩
  ·rw [if_neg h22]
   by_cases h21:o.kind=21
   ·rw [if_pos h21]
    obtain ⟨k1,k2⟩:=ww hL hx (ho.els h21) hl
    obtain ⟨k3,k4⟩:=ww hL k1 hn (hl.leave hL ho.lock)
    exact ⟨k3,by omega⟩
   ·rw [if_neg h21]
    exact ww hL hx hn (hl.leave hL ho.lock)
theorem nodup_len:∀ {l k:List P2},l.Nodup→(∀ x∈l,x∈k)→l.length≤k.length
 | [],_,_,_=>Nat.zero_le _
 | x::l,k,hn,h=>by
   rw [List.nodup_cons] at hn
   have hx:=h x (List.mem_cons_self ..)
   have:=nodup_len (l:=l) (k:=k.erase x) hn.2 fun y hy=>by
    have hne:y≠x:=fun e=>hn.1 (e ▸ hy)
    exact (List.mem_erase_of_ne hne).2 (h y (List.mem_cons_of_mem _ hy))
   rw [List.length_erase_of_mem hx] at this
   have:0 < k.length:=List.length_pos_of_mem hx
   rw [List.length_cons]; omega
theorem zDU {m:MModule} {L:Nat} {x:Fp} (hx:Inv m L x):∀ c∈x.callers,c.2.length≤(ud m).length:=fun c hc =>
 nodup_len (hx.callers c hc).1 fun b hb=>valid_mem ((hx.callers c hc).2 b hb)
end Go.Vw
namespace Go.Vw
open Go.RowKit Go.Am Go.Proofs
theorem yK {tb:Tab} {t:TypeId} {cs:List V} {off:Nat} {v:V} (ha:tb.isAgg t=some false) (h:cs[off]?=some v):xH tb t cs off=some v:=by
 unfold xH
 rw [ha]
 have h2:=uY off cs 0
 rw [Nat.add_zero,h] at h2
 cases hc:cutV off cs with
 | nil=>rw [hc] at h2; cases h2
 | cons x r=>rw [hc] at h2; simp only [List.getElem?_cons_zero,Option.some.injEq] at h2; subst h2; cases tb.size t <;> rfl
theorem lay_at {v:V}:∀ {off:Nat} {cs:List V},off < cs.length→wI off [v] cs=some (cs.set off v)
 | _,[],h=>by simp at h
 | 0,x::cs,_=>by simp [wI]
 | n+1,x::cs,h=>by
   have:n < cs.length:=by simpa using h
   simp only [wI,lay_at this,List.set_cons_succ]
theorem yu {tb:Tab} {t:TypeId} {v:V} {off:Nat} {cs:List V} (hs:tb.size t=some 1) (hv:v.cells=[v]) (hc:v.isCell=true) (h:off < cs.length):vG tb t v off cs=some (cs.set off v):=by
 unfold vG
 rw [hs]
 simp only [hv,List.length_singleton,zz,hc,cond_true,Bool.and_self,Nat.beq_refl]
 exact lay_at h
def w8 (n f:Nat) (row:Nat→List Int):List V:=(List.range n).map fun g=>if g < f then .slice .no ((row g).map zt) else .slice .zero []
theorem wQ (n f:Nat) (row:Nat→List Int):(w8 n f row).length=n:=by simp [w8]
theorem colV_zero (n:Nat) (row:Nat→List Int):w8 n 0 row=uk n [.slice .zero []]:=by
 rw [zBt]
 unfold w8
 refine List.ext_getElem (by simp) fun i h1 h2=>?_
 simp
theorem colV_at {n f:Nat} (row:Nat→List Int) (h:f < n):(w8 n f row)[f]?=some (.slice .zero []):=by
 unfold w8
 rw [List.getElem?_map,List.getElem?_range h]
 simp
theorem colV_set {n f:Nat} (row:Nat→List Int) (_h:f < n):(w8 n f row).set f (.slice .no ((row f).map zt))=w8 n (f+1) row:=by
 unfold w8
 refine List.ext_getElem (by simp) fun i h1 h2=>?_
 rw [List.getElem_set]
 simp only [List.getElem_map,List.getElem_range]
 split
 ·next e=>subst e; rw [if_pos (by omega)]
 ·next e =>
  by_cases hi:i < f
  ·rw [if_pos hi,if_pos (by omega)]
  ·rw [if_neg hi,if_neg (by omega)]
def xZ (r:List Int):List V:=[.slice .no (r.map zt)]
theorem colV_all {n:Nat} (row:Nat→List Int):w8 n n row=(((List.range n).map row).map xZ).flatten:=by
 have:∀ l:List Nat,(∀ g∈l,g < n)→l.map (fun g=>if g < n then V.slice .no ((row g).map zt) else .slice .zero [])=((l.map row).map xZ).flatten:=fun l=>by
  induction l with
  | nil=>intro _; rfl
  | cons g l ih =>
    intro h
    rw [List.map_cons,List.map_cons,List.map_cons,List.flatten_cons,← ih fun x hx=>h x (List.mem_cons_of_mem _ hx),if_pos (h g (List.mem_cons_self ..))]
    rfl
 exact this _ fun g hg=>List.mem_range.1 hg
theorem zCm {n f:Nat} (row:Nat→List Int) (h:f < n):(w8 n f row).set f (.slice .zero [])=w8 n f row:=by
 refine List.ext_getElem (by simp) fun i h1 h2=>?_
 rw [List.getElem_set]
 split
 ·next e =>
  subst e
  have:=colV_at row h
  rw [List.getElem?_eq_getElem h2] at this
  exact (Option.some.inj this).symm
 ·rfl
theorem VsLe.set {v v':V} (h:v.Le v'):∀ (l:List V) (f:Nat),VsLe (l.set f v) (l.set f v')
 | [],_=>.nil
 | _x::l,0=>.cons h (.refl l)
 | x::l,f+1=>.cons (.refl x) (VsLe.set h l f)
theorem zCn {n f:Nat} (row:Nat→List Int) (h:f < n) (t:Tok):VsLe ((w8 n f row).set f (.slice t ((row f).map zt))) (w8 n (f+1) row):=by
 rw [← colV_set row h]
 exact VsLe.set (V.Le.slice _ _) _ _
theorem colV_skip {n f:Nat} (row:Nat→List Int) (h:f < n) (he:row f=[]):VsLe (w8 n f row) (w8 n (f+1) row):=by
 have:=zCn row h .zero
 rw [he] at this
 exact (zCm row h) ▸ this
end Go.Vw
namespace Go.Vw
open Go.RowKit Go.Am Go.Proofs
attribute [local irreducible] yE zv zq VD VDn VDq Ret
inductive Done (m:MModule):Fp→Fp→Prop
 | stop {x:Fp} (h:x.row=[]):Done m x x
 | step {x y:Fp} {p:P2} {r:List P2} (h:x.row=p::r) (k:Done m (xU m { x with row:=r } p) y):Done m x y
theorem Done.unique {m:MModule} {x y z:Fp} (h:Done m x y) (k:Done m x z):y=z:=by
 induction h with
 | stop h =>
   cases k with
   | stop _=>rfl
   | step h' _=>rw [h] at h'; cases h'
 | step h _ ih =>
   cases k with
   | stop h'=>rw [h] at h'; cases h'
   | step h' k =>
     rw [h] at h'; cases h'
     exact ih k
def qv (f:Int):Fp:=yP ⟨[],[],[]⟩ (f,0) (0,0)
theorem inv_done {m:MModule} {L:Nat} (hL:L≤8) (ho:∀ p,xA m p→OpFacts m L p ((m.fn p.1).op p.2)) {x y:Fp} (h:Done m x y):Inv m L x→Inv m L y:=by
 induction h with
 | stop _=>exact id
 | @step x y p r h _ ih =>
   intro hx
   have hp:=hx.row p (by rw [h]; exact List.mem_cons_self ..)
   refine ih (qU hL (x:={ x with row:=r }) ⟨hx.at_,fun q hq=>hx.row q (by rw [h]; exact List.mem_cons_of_mem _ hq),hx.callers⟩ (ho p hp)).1
def xE (y:Fp) (sel:P2→Int) (f n:Nat):Int:=match zL y.at_ ((f:Int),(n:Int)) with | some l=>sel l | none=>-1
def wx (m:MModule) (y:Fp) (seen:List Int) (sel:P2→Int) (f:Nat):List Int:=if (f:Int)∈seen then (List.range (m.fn (f:Int)).code.length).map (xE y sel f) else []
def yU (m:MModule) (y:Fp) (seen:List Int) (sel:P2→Int):List (List Int):=(List.range m.funcs.length).map (wx m y seen sel)
def wd (m:MModule) (f:Int):List Int:=yR m (m.funcs.length+1) f []
def yy (t:List (List Int)):List V:=[.slice .no (t.map xZ)]
def yY (must may:List (List (List Int))):List V:=[.slice .no (must.map yy),.slice .no (may.map yy)]
def Thread (m:MModule) (f:Int) (must may:List (List Int)):Prop:=∃ y,Done m (qv f) y∧must=yU m y (wd m f) (·.1)∧may=yU m y (wd m f) (·.2)
inductive Threads (m:MModule):List Int→List (List (List Int))→List (List (List Int))→Prop
 | nil:Threads m [] [] []
 | cons {f:Int} {fs:List Int} {a b:List (List Int)} {us vs:List (List (List Int))} (h:Thread m f a b) (k:Threads m fs us vs):Threads m (f::fs) (a::us) (b::vs)
theorem Threads.snoc {m:MModule} {f:Int} {a b:List (List Int)} (h:Thread m f a b):∀ {fs us vs},Threads m fs us vs→Threads m (fs++[f]) (us++[a]) (vs++[b])
 | _,_,_,.nil=>.cons h .nil
 | _,_,_,.cons h1 k=>.cons h1 (Threads.snoc h k)
theorem Threads.lens {m:MModule}:∀ {fs us vs},Threads m fs us vs→us.length=fs.length∧vs.length=fs.length
 | _,_,_,.nil=>⟨rfl,rfl⟩
 | _,_,_,.cons _ k=>⟨by simp [k.lens.1],by simp [k.lens.2]⟩
theorem Sub.dropL:∀ (S R:Hp),Sub (S++R) R
 | [],R=>.refl R
 | _::S,R=>.drop (Sub.dropL S R)
section
variable {P:Program} {σ:Sg} {K:List Kt} {fr:Fr} {S:Hp} {Q:Exit→Fr→Hp→Prop} {ops:Array Oper} {l:List Oper}
theorem vj [Drw] {S':Hp} (x:List.Perm S S') (h:VT P σ (.ops ops l K fr) S' Q):yE P σ ops l K fr S Q:=by
 unfold yE
 intro i hi F w a s k
 have h:yE P σ ops l K fr S' Q:=h
 unfold yE at h
 exact h i hi F w a ⟨s.sat.perm x,s.fr,s.size,s.defers⟩ (k.perm x)
end
section
variable {P:Program} {σ:Sg} {K:List Kt} {fr:Fr} {S:Hp} {Q:Exit→Fr→Hp→Prop}
theorem next_perm [Drw] {S':Hp} (x:List.Perm S S') (h:VT P σ (.next K fr) S' Q):zq P σ K fr S Q:=by
 have h:zq P σ K fr S' Q:=h
 unfold zq at h ⊢
 exact fun F w a s k=>h F w a ⟨s.sat.perm x,s.fr,s.size,s.defers⟩ (k.perm x)
end
theorem zB4 {m:MModule} (h:zO m=true):∀ f∈m.funcs,∀ o∈f.code,o.kind=22→zM m.funcs.length [o.a]=true:=fun f hf o ho hk=>by
 simp only [zO,Bool.and_eq_true,List.all_eq_true] at h
 have:=h.2 f hf o ho
 simp only [xJ,Bool.and_eq_true] at this
 exact call_in this.1.1.1.1 hk
theorem zEy (m:MModule):qt m [] < m.funcs.length+1:=by
 have:qt m []≤(List.range m.funcs.length).length:=List.countP_le_length
 rw [List.length_range] at this
 omega
theorem sum_cast:∀ l:List Nat,((l.sum:Nat):Int)=(l.map fun n:Nat=>(n:Int)).sum
 | []=>rfl
 | n::l=>by simp only [List.sum_cons,List.map_cons,← sum_cast l]; push_cast; rfl
theorem places_len (m:MModule):((ud m).length:Int)=yk m.funcs:=by
 unfold ud yk
 rw [List.length_flatMap,sum_cast]
 congr 1
 refine List.ext_getElem (by simp) fun i h1 h2=>?_
 simp only [List.getElem_map,List.getElem_range,List.length_map,List.length_range]
 have hi:i < m.funcs.length:=by simpa using h2
 have:m.fn (i:Int)=m.funcs[i]:=by
  unfold MModule.fn
  rw [Int.toNat_natCast,List.getElem?_eq_getElem hi]; rfl
 rw [this]
theorem xB {m:MModule} (h:xt m=true):m.locks.length≤8∧(ud m).length≤4096:=by
 have h2:=places_len m
 simp only [xt,namesB,Bool.and_eq_true,decide_eq_true_eq] at h
 obtain ⟨_,⟨⟨⟨⟨⟨_,⟨⟨⟨h3,_⟩,_⟩,_⟩⟩,_⟩,_⟩,_⟩,h4⟩,_⟩:=h
 exact ⟨by omega,by omega⟩
theorem fd_ok {m:MModule} {L:Nat} {y:Fd} (hy:Inv m L y.pure) (hp:(ud m).length≤4096) (hmu:mu m y.pure < 5000000) (ht:xg 2 y.rtok=true) (hc:∀ c∈y.callers,xg 2 c.2.1=true):FdOk 5000000 y:=by
 refine ⟨?_,ht,fun c hm=>⟨?_,hc c hm⟩⟩
 ·have:y.row.length≤mu m y.pure:=Nat.le_add_right _ _
  omega
 ·have:=zDU hy (c.1,c.2.2) (List.mem_map.2 ⟨c,hm,rfl⟩)
  dsimp only at this
  omega
theorem pot_le (m:MModule) (A:AtM) (h:∀ p l,zL A p=some l→hgt (some l)≤512):pot m A≤(ud m).length * 512:=by
 unfold pot
 have:∀ l:List P2,(l.map fun p=>hgt (zL A p)).sum≤l.length * 512:=fun l=>by
  induction l with
  | nil=>simp
  | cons p l ih =>
    have hp:hgt (zL A p)≤512:=by
     cases hf:zL A p with
     | none=>exact Nat.le_refl _
     | some k=>exact h p k hf
    simp only [List.map_cons,List.sum_cons,List.length_cons,Nat.add_mul]
    omega
 exact this _
theorem zAU {m:MModule} (h:zO m=true) {f:Int} (hf:f∈m.threads):zM m.funcs.length [f]=true:=by
 simp only [zO,xt,Bool.and_eq_true,Bool.not_eq_true',List.any_eq_false] at h
 have:=h.1.2.2 f hf
 simp only [vr,Bool.or_eq_true,not_or,Bool.not_eq_true',Bool.not_eq_true,Bool.not_eq_false] at this
 exact this.1
section
variable [Drw] (hT:TabOk tab Tryz.prog)
include hT
set_option maxHeartbeats 2000000 in
theorem find (m:MModule) (hs:Small m) (ho:zO m=true→∀ p,xA m p→OpFacts m m.locks.length p ((m.fn p.1).op p.2)) :
  VC Tryz.prog 82 [.agg (ze m)] [] fun v _=>if zO m=true then ∃ must may,Threads m m.threads must may∧v = .tup [.agg (yY must may),.int .i64 0] else v = .tup [.agg (yY [] []),.int .i64 70]:=by
 refine VC.code hT 145 rfl rfl rfl rfl fun F W S0=>?_
 refine gz hT rfl ?_;conv=>whnf
 refine zA rfl (zN rfl rfl rfl ?_)
 refine gz hT rfl ?_;conv=>whnf
 refine zA rfl (zX hT rfl rfl rfl fun b2=>?_)
 refine gz hT rfl ?_;conv=>whnf
 refine zA rfl (zR hT rfl rfl rfl rfl rfl rfl (codeRight hT m hs) ?_)
 refine gz hT rfl ?_;conv=>whnf
 refine zC rfl (fun hr=>?_) (fun hr=>?_)
 ·refine gz hT rfl ?_;conv=>whnf
  refine zA rfl (zI (cs':=[.slice .zero [],.slice .zero []]) hT rfl rfl rfl .here rfl ?_)
  refine yC (.cells (vs':=yY [] []) (.cons (V.Le.slice _ _) (.cons (V.Le.slice _ _) .nil)) .nil) ?_
  refine gz hT rfl ?_;conv=>whnf
  refine zQ (.cell rfl .here rfl (.tmp rfl .nil)) ?_
  rw [Bool.not_eq_true'] at hr
  rw [if_neg (by rw [hr]; decide)]
  rfl
 have hr:=nf hr
 refine gz hT rfl ?_;conv=>whnf
 refine zA rfl (zX hT rfl rfl rfl fun b4=>?_)
 refine gz hT rfl ?_;conv=>whnf
 refine zB rfl (zK hT rfl rfl rfl rfl rfl rfl (List.length_map _)) ?_
 refine gz hT rfl ?_;conv=>whnf
 have hth:=hs.threads
 refine zW (fun w:Nat×List (List (List Int))×List (List (List Int))×Tok×Tok=>([(1,.pin (ze m) 0),(2,.ptr b2 0),(4,.ptr b4 0),(21,.slice .no (m.threads.map zt)),(22,.int .i64 m.threads.length),(23,.int .i64 w.1)],[.cells b4 [.slice w.2.2.2.1 (w.2.1.map yy),.slice w.2.2.2.2 (w.2.2.1.map yy)] 81,.cells b2 [.slice .zero [],.slice .zero []] 81,.tl w.2.2.2.1,.tl w.2.2.2.2])) (fun w=>w.1≤m.threads.length∧Threads m (m.threads.take w.1) w.2.1 w.2.2.1∧xg 1 w.2.2.2.1=true∧xg 1 w.2.2.2.2=true) (fun w=>m.threads.length - w.1) (0,[],[],.zero,.zero) ⟨Nat.zero_le _,.nil,rfl,rfl⟩ ⟨⟨lk rfl,lk rfl,lk rfl,lk rfl,lk rfl,lk rfl,trivial⟩,.keep (.keep (.zero (.zero .nil)))⟩ ?_
 rintro ⟨i,must,may,tm,ta⟩ ⟨hi,hts,htm,hta⟩
 dsimp only at hi hts htm hta
 refine gz hT rfl ?_;conv=>whnf
 refine zC rfl (fun hlt=>?_) (fun hlt=>?_)
 ·simp only [decide_eq_true_eq,Int.ofNat_lt] at hlt
  have hfirst:=zAU hr (List.getElem_mem hlt)
  refine gz hT rfl ?_;conv=>whnf
  refine zB rfl (zJ hT rfl rfl rfl rfl rfl hlt rfl) ?_
  refine gz hT rfl ?_;conv=>whnf
  refine zA rfl (zAO rfl fun ba=>?_)
  refine gz hT rfl ?_;conv=>whnf
  refine zA rfl (zAO rfl fun bc=>?_)
  refine gz hT rfl ?_;conv=>whnf
  refine zA rfl (s_box rfl rfl rfl fun bx=>?_)
  refine yC (.keep (.keep (.keep (.zero (.refl _))))) ?_
  refine vj (S':=fdS m bx ba bc ⟨[],[],[],.zero⟩++[.cells b4 [.slice tm (must.map yy),.slice ta (may.map yy)] 81,.cells b2 [.slice .zero [],.slice .zero []] 81,.tl tm,.tl ta]) (.cons _ (.swap _ _ _)) ?_
  generalize hR:[HE.cells b4 [.slice tm (must.map yy),.slice ta (may.map yy)] 81,.cells b2 [.slice .zero [],.slice .zero []] 81,.tl tm,.tl ta]=R
  refine gz hT rfl ?_;conv=>whnf
  refine zA rfl (yQ hT rfl rfl rfl rfl rfl rfl (((come hT m bx ba bc (n:=1) ⟨[],[],[],.zero⟩ ⟨by decide,rfl,fun c hc=>by cases hc⟩ (by decide) (m.threads[i],0) (0,0)).frame R).mono ?_))
  rintro v _ ⟨_,rfl,y0,hy0,ey0,rfl⟩
  refine gz hT rfl ?_;conv=>whnf
  have hfr:xt m=true:=by
   simp only [zO,Bool.and_eq_true] at hr
   exact hr.1
  obtain ⟨hm,hg⟩:=qT hfr
  obtain ⟨hL,hpl⟩:=xB hfr
  have hv0:xA m (m.threads[i],0):=⟨hfirst,by show (0:Int)≤0; omega,by have:=(MModule.fn_ok hm hfirst).code.1; show (0:Int) < _; dsimp only; omega⟩
  have inv0:Inv m m.locks.length y0.pure∧mu m y0.pure < 5000000:=by
   have e0:Inv m m.locks.length ⟨[],[],[]⟩:=⟨fun p l h=>(by cases h),fun p h=>(by cases h),fun c h=>(by cases h)⟩
   obtain ⟨k1,k2⟩:=ww hL e0 hv0 (l:=(0,0)) ⟨0,0,rfl,fun i h=>h,fun i h=>by simp at h⟩
   rw [ey0]
   refine ⟨k1,Nat.lt_of_le_of_lt k2 ?_⟩
   have:=pot_le m [] (fun p l h=>by cases h)
   show 0+2 * pot m [] < 5000000
   omega
  refine zW (fun y:Fd=>([(1,.pin (ze m) 0),(2,.ptr b2 0),(4,.ptr b4 0),(6,.int .i64 m.threads[i]),(7,.ptr bx 0),(21,.slice .no (m.threads.map zt)),(22,.int .i64 m.threads.length),(23,.int .i64 i)],fdS m bx ba bc y++R)) (fun y=>Inv m m.locks.length y.pure∧mu m y.pure < 5000000∧xg 2 y.rtok=true∧(∀ c∈y.callers,xg 2 c.2.1=true)∧∀ z,Done m y.pure z→Done m (qv m.threads[i]) z) (fun y=>mu m y.pure) y0 ⟨inv0.1,inv0.2,hy0.tok,fun c hc=>(hy0.callers c hc).2,fun z hz=>by rw [ey0] at hz; exact hz⟩ ⟨⟨lk rfl,lk rfl,lk rfl,lk rfl,lk rfl,lk rfl,lk rfl,lk rfl,trivial⟩,.refl _⟩ ?_
  rintro y ⟨hinv,hmu,htok,hctok,hdone⟩
  refine gz hT rfl ?_;conv=>whnf
  refine zB rfl (zT hT rfl rfl .here rfl) ?_
  refine gz hT rfl ?_;conv=>whnf
  refine zB rfl (zK hT rfl rfl rfl rfl rfl rfl (List.length_map _)) ?_
  refine gz hT rfl ?_;conv=>whnf
  refine zC rfl (fun hpos=>?_) (fun hpos=>?_)
  ·simp only [decide_eq_true_eq] at hpos
   obtain ⟨p,r,hrow⟩:∃ p r,y.row=p::r:=by
    cases hy:y.row with
    | nil=>rw [hy] at hpos; simp at hpos
    | cons p r=>exact ⟨p,r,rfl⟩
   have hvp:=hinv.row p (by show p∈y.row; rw [hrow]; exact List.mem_cons_self ..)
   have hof:=ho hr p hvp
   refine gz hT rfl ?_;conv=>whnf
   refine zB rfl (zT hT rfl rfl .here rfl) ?_
   refine gz hT rfl ?_;conv=>whnf
   refine zB rfl (zr (r:=zh p) hT rfl rfl rfl rfl rfl (by decide) (by rw [hrow]; rfl) rfl) ?_
   refine gz hT rfl ?_;conv=>whnf
   refine zA rfl (zX hT rfl rfl rfl fun b8=>?_)
   refine gz hT rfl ?_;conv=>whnf
   refine zA rfl (zI (cs':=zh p) hT rfl rfl rfl .here rfl ?_)
   refine zo (t:=8) rfl ?_
   refine gz hT rfl ?_;conv=>whnf
   refine zB rfl (zT hT rfl rfl .here rfl) ?_
   refine gz hT rfl ?_;conv=>whnf
   refine zB rfl (g_sliceFrom (i:=1) hT rfl rfl rfl (wa y.row) rfl rfl (by rw [List.length_map,hrow]; simp)) ?_
   refine gz hT rfl ?_;conv=>whnf
   refine zA rfl (zI (cs':=ze m++[.map ba,.map bc,.slice y.rtok ((y.row.map zh).drop 1)]) hT rfl rfl rfl .here rfl ?_)
   refine yC (S':=fdS m bx ba bc { y with row:=r }++R) (by rw [hrow]; exact .refl _) ?_
   refine gz hT rfl ?_;conv=>whnf
   have hpure:Fd.pure { y with row:=r }={ y.pure with row:=r }:=rfl
   have hmu':mu m { y.pure with row:=r } < mu m y.pure:=by
    show r.length+2 * pot m y.at_ < y.row.length+2 * pot m y.at_
    rw [hrow,List.length_cons]; omega
   have hinv':Inv m m.locks.length { y.pure with row:=r }:=⟨hinv.at_,fun q hq=>hinv.row q (by show q∈y.row; rw [hrow]; exact List.mem_cons_of_mem _ hq),hinv.callers⟩
   have hok:FdOk 5000000 { y with row:=r }:=fd_ok (m:=m) (L:=m.locks.length) hinv' hpl (by rw [hpure]; omega) htok hctok
   have hcl:((wb y.callers p.1).map (·.2.length)).getD 0≤4096:=by
    cases hf:wb y.callers p.1 with
    | none=>exact Nat.zero_le _
    | some c =>
      obtain ⟨a',hmem⟩:=zCk hf
      exact Nat.le_trans (zDU hinv (a',c.2) (List.mem_map.2 ⟨_,hmem,rfl⟩)) hpl
   obtain ⟨li,lm⟩:=qU hL hinv' hof
   refine zA rfl (yQ hT rfl rfl rfl rfl rfl rfl (((leave hT m bx ba bc { y with row:=r } hok p hm hvp.1 hvp.2 (fun h=>(hof.call h).1) _ rfl (by dsimp only; omega)).frame R).mono ?_))
   rintro v _ ⟨_,rfl,z,hz,ez,rfl⟩
   refine gz hT rfl ?_;conv=>whnf
   refine ⟨z,⟨by rw [ez]; exact li,by rw [ez,hpure]; omega,hz.tok,fun c hc=>(hz.callers c hc).2,fun u hu=>hdone u (.step (p:=p) (r:=r) hrow (by rw [ez] at hu; exact hu))⟩,by rw [ez,hpure]; omega,⟨lk rfl,lk rfl,lk rfl,lk rfl,lk rfl,lk rfl,lk rfl,lk rfl,trivial⟩,.refl _⟩
  ·have hrow:y.row=[]:=by
    simp only [decide_eq_false_iff_not] at hpos
    cases hy:y.row with
    | nil=>rfl
    | cons p r=>rw [hy] at hpos; simp at hpos
   have hdone:=hdone _ (.stop hrow)
   refine gz hT rfl ?_;conv=>whnf
   refine zA rfl (zAO rfl fun bs=>?_)
   refine gz hT rfl ?_;conv=>whnf
   refine zA rfl (yQ hT rfl rfl rfl rfl rfl rfl (((called hT m hm (zB4 hr) bs (m.funcs.length+1) m.threads[i] [] hfirst (zEy m)).frame (fdS m bx ba bc y++R)).mono ?_))
   rintro v _ ⟨_,rfl,rfl⟩
   have hnf:=hs.funcs
   refine gz hT rfl ?_;conv=>whnf
   intro id
   refine kf 0 (fun w:Nat×Nat=>([(1,.pin (ze m) 0),(2,.ptr b2 0),(4,.ptr b4 0),(6,.int .i64 m.threads[i]),(7,.ptr bx 0),(9,.map bs),(10,.ref w.1 0 m.funcs.length m.funcs.length),(11,.ref w.2 0 m.funcs.length m.funcs.length),(21,.slice .no (m.threads.map zt)),(22,.int .i64 m.threads.length),(23,.int .i64 i)],.cells w.1 (uk m.funcs.length [.slice .zero []]) 25::.cells w.2 (uk m.funcs.length [.slice .zero []]) 25::.map bs ((wd m m.threads[i]).map zAl)::(fdS m bx ba bc y++R))) (fun _=>True) ?_ ?_
   ·refine zd hT rfl rfl ?_ id
    repeat' (first
     | (refine god hT 2 rfl ?_;conv=>whnf)
     | refine zV rfl ?_
     | refine q_g rfl (fun S'=>(zK hT rfl rfl rfl rfl rfl rfl (List.length_map _)).qs) ?_
     | refine zk rfl rfl rfl rfl (fun h=>?_) (fun h=>?_))
    refine vd_eff2 rfl (eff rfl rfl (wY hT rfl rfl rfl rfl rfl rfl rfl (Nat.le_refl _) (by omega) fun b10=>And.intro trivial ?_)) (eff rfl rfl (wY hT rfl rfl rfl rfl rfl rfl rfl (Nat.le_refl _) (by omega) fun b11=>And.intro trivial ?_))
    ·refine god hT 2 rfl ?_;conv=>whnf
     refine zS rfl (eff rfl rfl (wY hT rfl rfl rfl rfl rfl rfl rfl (Nat.le_refl _) (by omega) fun b11=>And.intro trivial ?_))
     refine god hT 2 rfl ?_;conv=>whnf
     refine zV rfl ?_
     refine next_perm (.swap _ _ _) ?_
     refine gz hT rfl ?_;conv=>whnf
     exact ⟨(b10,b11),trivial,⟨lk rfl,lk rfl,lk rfl,lk rfl,lk rfl,lk rfl,lk rfl,lk rfl,lk rfl,lk rfl,lk rfl,trivial⟩,.refl _⟩
    ·refine god hT 2 rfl ?_;conv=>whnf
     refine zS rfl (eff rfl rfl (wY hT rfl rfl rfl rfl rfl rfl rfl (Nat.le_refl _) (by omega) fun b10=>And.intro trivial ?_))
     refine god hT 2 rfl ?_;conv=>whnf
     refine zV rfl ?_
     refine gz hT rfl ?_;conv=>whnf
     exact ⟨(b10,b11),trivial,⟨lk rfl,lk rfl,lk rfl,lk rfl,lk rfl,lk rfl,lk rfl,lk rfl,lk rfl,lk rfl,lk rfl,trivial⟩,.refl _⟩
   ·rintro ⟨b10,b11⟩ _
    refine gz hT rfl ?_;conv=>whnf
    refine zB rfl (zK hT rfl rfl rfl rfl rfl rfl (List.length_map _)) ?_
    refine gz hT rfl ?_;conv=>whnf
    generalize hseen:wd m m.threads[i]=seen
    have hcol:=fun row=>colV_zero m.funcs.length row
    refine zW (fun f:Nat=>([(1,.pin (ze m) 0),(2,.ptr b2 0),(4,.ptr b4 0),(6,.int .i64 m.threads[i]),(7,.ptr bx 0),(9,.map bs),(10,.ref b10 0 m.funcs.length m.funcs.length),(11,.ref b11 0 m.funcs.length m.funcs.length),(21,.slice .no (m.threads.map zt)),(22,.int .i64 m.threads.length),(23,.int .i64 i),(75,.int .i64 m.funcs.length),(76,.int .i64 f)],.cells b10 (w8 m.funcs.length f (wx m y.pure seen (·.1))) 25::.cells b11 (w8 m.funcs.length f (wx m y.pure seen (·.2))) 25::.map bs (seen.map zAl)::(fdS m bx ba bc y++R))) (fun f=>f≤m.funcs.length) (fun f=>m.funcs.length - f) 0 (Nat.zero_le _) ⟨⟨lk rfl,lk rfl,lk rfl,lk rfl,lk rfl,lk rfl,lk rfl,lk rfl,lk rfl,lk rfl,lk rfl,lk rfl,lk rfl,trivial⟩,by rw [hcol,hcol,← hseen]; exact .refl _⟩ ?_
    intro f hf
    refine gz hT rfl ?_;conv=>whnf
    refine zC rfl (fun hfl=>?_) (fun hfl=>?_)
    ·simp only [decide_eq_true_eq,Int.ofNat_lt] at hfl
     have hbf:zM m.funcs.length [(f:Int)]=true:=belowB_one.2 ⟨by omega,by omega⟩
     have hlen:=(MModule.fn_ok hm hbf).code
     refine gz hT rfl ?_;conv=>whnf
     refine zB rfl (xh hT rfl rfl rfl hbf) ?_
     refine gz hT rfl ?_;conv=>whnf
     refine zB rfl (zK hT rfl rfl rfl rfl rfl rfl (List.length_map _)) ?_
     refine gz hT rfl ?_;conv=>whnf
     have h71:=look71 (f:Int) seen
     by_cases hin:(f:Int)∈seen
     ·rw [if_pos hin] at h71
      have hst:∀ (l:List V) (u v:V),f < l.length→v.cells=[v]→v.isCell=true→vG tab 25 v (0+((f:Nat):Int).toNat * 1) (l.set f u)=some (l.set f v):=fun l u v h h1 h2=>by rw [Int.toNat_natCast,Nat.mul_one,Nat.zero_add,yu rfl h1 h2 (by simpa using h),List.set_set]
      have hat:∀ (l:List V) (v:V),f < l.length→(l.set f v)[0+((f:Nat):Int).toNat * 1]?=some v:=fun l v h=>by rw [Int.toNat_natCast,Nat.mul_one,Nat.zero_add]; simp [h]
      have hr1:wx m y.pure seen (·.1) f=(List.range (m.fn (f:Int)).code.length).map (xE y.pure (·.1) f):=by unfold wx; rw [if_pos hin]
      have hr2:wx m y.pure seen (·.2) f=(List.range (m.fn (f:Int)).code.length).map (xE y.pure (·.2) f):=by unfold wx; rw [if_pos hin]
      refine zW (fun w:Nat×Tok×Tok=>([(1,.pin (ze m) 0),(2,.ptr b2 0),(4,.ptr b4 0),(6,.int .i64 m.threads[i]),(7,.ptr bx 0),(9,.map bs),(10,.ref b10 0 m.funcs.length m.funcs.length),(11,.ref b11 0 m.funcs.length m.funcs.length),(12,.int .i64 f),(21,.slice .no (m.threads.map zt)),(22,.int .i64 m.threads.length),(23,.int .i64 i),(75,.int .i64 m.funcs.length),(76,.int .i64 f),(85,.int .i64 (m.fn (f:Int)).code.length),(86,.int .i64 w.1)],.tl w.2.1::.tl w.2.2::.cells b10 ((w8 m.funcs.length f (wx m y.pure seen (·.1))).set f (.slice w.2.1 (((List.range w.1).map (xE y.pure (·.1) f)).map zt))) 25::.cells b11 ((w8 m.funcs.length f (wx m y.pure seen (·.2))).set f (.slice w.2.2 (((List.range w.1).map (xE y.pure (·.2) f)).map zt))) 25::.map bs (seen.map zAl)::(fdS m bx ba bc y++R))) (fun w=>w.1≤(m.fn (f:Int)).code.length∧xg 1 w.2.1=true∧xg 1 w.2.2=true) (fun w=>(m.fn (f:Int)).code.length - w.1) (0,.zero,.zero) ⟨Nat.zero_le _,rfl,rfl⟩ ⟨⟨lk rfl,lk rfl,lk rfl,lk rfl,lk rfl,lk rfl,lk rfl,lk rfl,lk rfl,lk rfl,lk rfl,lk rfl,lk rfl,lk rfl,lk rfl,lk rfl,trivial⟩,.zero (.zero (by
       show Sub _ (.cells b10 ((w8 m.funcs.length f (wx m y.pure seen (·.1))).set f (.slice .zero [])) 25::.cells b11 ((w8 m.funcs.length f (wx m y.pure seen (·.2))).set f (.slice .zero [])) 25::_)
       rw [zCm _ hfl,zCm _ hfl]
       exact .refl _))⟩ ?_
      rintro w ⟨hw,ht1,ht2⟩
      refine gz hT rfl ?_;conv=>whnf
      refine zC rfl (fun hj=>?_) (fun hj=>?_)
      ·simp only [decide_eq_true_eq,Int.ofNat_lt] at hj
       have h67:=look67 ((f:Int),(w.1:Int)) y.at_
       refine gz hT rfl ?_;conv=>whnf
       refine zB rfl (yr hT rfl rfl rfl rfl rfl rfl (.there (.there (.there (.there .here)))) h71) ?_
       refine gz hT rfl ?_;conv=>whnf
       refine zB rfl (zT hT rfl rfl (.there (.there (.there (.there (.there .here))))) rfl) ?_
       refine gz hT rfl ?_;conv=>whnf
       cases hf67:zL y.at_ ((f:Int),(w.1:Int)) with
       | none =>
         rw [hf67] at h67
         refine zB rfl (yr hT rfl rfl rfl rfl rfl rfl (.there (.there (.there (.there (.there (.there .here)))))) h67) ?_
         refine gz hT rfl ?_;conv=>whnf
         refine zA rfl (zX hT rfl rfl rfl fun b14=>?_)
         refine gz hT rfl ?_;conv=>whnf
         refine zA rfl (zI (cs':=zh (0,0)) hT rfl rfl rfl .here rfl ?_)
         refine gz hT rfl ?_;conv=>whnf
         refine zA rfl (zI (cs':=zh (-1,-1)) hT rfl rfl rfl .here rfl ?_)
         refine zo (t:=14) rfl ?_
         refine gz hT rfl ?_;conv=>whnf
         intro id
         refine zd hT rfl rfl ?_ id
         repeat' (first
          | (refine god hT 2 rfl ?_;conv=>whnf)
          | refine zV rfl ?_
          | refine q_g rfl (fun S'=>(zK hT rfl rfl rfl rfl rfl rfl (List.length_map _)).qs) ?_
          | refine zk rfl rfl rfl rfl (fun h=>?_) (fun h=>?_)
          | refine q_g rfl (fun S'=>(za hT rfl rfl rfl rfl rfl (by omega) (by omega)).qs) ?_
          | refine yD hT rfl rfl rfl (.there (.there .here)) (yK (v:=.slice w.2.1 (((List.range w.1).map (xE y.pure (·.1) f)).map zt)) rfl (hat _ _ (by rw [wQ]; exact hfl))) ?_
          | refine yD hT rfl rfl rfl (.there (.there (.there .here))) (yK (v:=.slice w.2.2 (((List.range w.1).map (xE y.pure (·.2) f)).map zt)) rfl (hat _ _ (by rw [wQ]; exact hfl))) ?_
          | refine q_g rfl (fun S'=>zH (rows:=[zt ((-1,-1):P2).1]) hT rfl rfl rfl rfl rfl rfl rfl rfl ⟨rfl,rfl⟩) ?_
          | refine q_g rfl (fun S'=>zH (rows:=[zt ((-1,-1):P2).2]) hT rfl rfl rfl rfl rfl rfl rfl rfl ⟨rfl,rfl⟩) ?_)
         refine zS rfl (eff rfl rfl (zx (news:=[zt ((-1,-1):P2).1]) hT rfl rfl rfl rfl rfl rfl rfl rfl rfl rfl ht1 .here (yc _) (yc [((-1,-1):P2).1]) (wK [((-1,-1):P2).1]) (by simp only [List.length_cons,List.length_nil,List.length_map,List.length_range]; omega) fun t1 ht1'=>And.intro (And.intro ⟨_,_,_,(.there (.there (.there .here))),(yK (v:=.slice w.2.2 (((List.range w.1).map (xE y.pure (·.2) f)).map zt)) rfl (hat _ _ (by rw [wQ]; exact hfl)))⟩ trivial) ?_))
         refine god hT 2 rfl ?_;conv=>whnf
         refine zS rfl (eff rfl rfl (zx (news:=[zt ((-1,-1):P2).2]) hT rfl rfl rfl rfl rfl rfl rfl rfl rfl rfl ht2 (.there .here) (yc _) (yc [((-1,-1):P2).2]) (wK [((-1,-1):P2).2]) (by simp only [List.length_cons,List.length_nil,List.length_map,List.length_range]; omega) fun t2 ht2'=>And.intro trivial ?_))
         refine god hT 2 rfl ?_;conv=>whnf
         refine q_g rfl (fun S'=>(za hT rfl rfl rfl rfl rfl (by omega) (by omega)).qs) ?_
         refine god hT 2 rfl ?_;conv=>whnf
         refine zS rfl (eff rfl rfl (zI (cs':=(w8 m.funcs.length f (wx m y.pure seen (·.1))).set f (.slice t1 (((List.range w.1).map (xE y.pure (·.1) f)).map zt++[zt ((-1,-1):P2).1]))) hT rfl rfl rfl (.there (.there .here)) (hst _ _ _ (by rw [wQ]; exact hfl) rfl rfl) (And.intro trivial ?_)))
         refine god hT 2 rfl ?_;conv=>whnf
         refine q_g rfl (fun S'=>(za hT rfl rfl rfl rfl rfl (by omega) (by omega)).qs) ?_
         refine god hT 2 rfl ?_;conv=>whnf
         refine zS rfl (eff rfl rfl (zI (cs':=(w8 m.funcs.length f (wx m y.pure seen (·.2))).set f (.slice t2 (((List.range w.1).map (xE y.pure (·.2) f)).map zt++[zt ((-1,-1):P2).2]))) hT rfl rfl rfl (.there (.there (.there .here))) (hst _ _ _ (by rw [wQ]; exact hfl) rfl rfl) (And.intro trivial ?_)))
         refine god hT 2 rfl ?_;conv=>whnf
         refine zV rfl ?_
         refine gz hT rfl ?_;conv=>whnf
         refine zB rfl (zU rfl rfl rfl (by omega)) ?_
         refine gz hT rfl ?_;conv=>whnf
         have e1:xE y.pure (·.1) f w.1=((-1,-1):P2).1:=by unfold xE; rw [show zL y.pure.at_ _=_ from hf67]
         have e2:xE y.pure (·.2) f w.1=((-1,-1):P2).2:=by unfold xE; rw [show zL y.pure.at_ _=_ from hf67]
         exact ⟨(w.1+1,t1,t2),⟨hj,ht1',ht2'⟩,by dsimp only; omega,⟨lk rfl,lk rfl,lk rfl,lk rfl,lk rfl,lk rfl,lk rfl,lk rfl,lk rfl,lk rfl,lk rfl,lk rfl,lk rfl,lk rfl,lk rfl,lk rfl,trivial⟩,by
          dsimp only
          simp only [List.range_succ,List.map_append,List.map_cons,List.map_nil,e1,e2]
          exact .refl _⟩
       | some e =>
         rw [hf67] at h67
         refine zB rfl (yr hT rfl rfl rfl rfl rfl rfl (.there (.there (.there (.there (.there (.there .here)))))) h67) ?_
         refine gz hT rfl ?_;conv=>whnf
         refine zA rfl (zX hT rfl rfl rfl fun b14=>?_)
         refine gz hT rfl ?_;conv=>whnf
         refine zA rfl (zI (cs':=zh e) hT rfl rfl rfl .here rfl ?_)
         refine zo (t:=14) rfl ?_
         refine gz hT rfl ?_;conv=>whnf
         intro id
         refine zd hT rfl rfl ?_ id
         repeat' (first
          | (refine god hT 2 rfl ?_;conv=>whnf)
          | refine zV rfl ?_
          | refine q_g rfl (fun S'=>(zK hT rfl rfl rfl rfl rfl rfl (List.length_map _)).qs) ?_
          | refine zk rfl rfl rfl rfl (fun h=>?_) (fun h=>?_)
          | refine q_g rfl (fun S'=>(za hT rfl rfl rfl rfl rfl (by omega) (by omega)).qs) ?_
          | refine yD hT rfl rfl rfl (.there (.there .here)) (yK (v:=.slice w.2.1 (((List.range w.1).map (xE y.pure (·.1) f)).map zt)) rfl (hat _ _ (by rw [wQ]; exact hfl))) ?_
          | refine yD hT rfl rfl rfl (.there (.there (.there .here))) (yK (v:=.slice w.2.2 (((List.range w.1).map (xE y.pure (·.2) f)).map zt)) rfl (hat _ _ (by rw [wQ]; exact hfl))) ?_
          | refine q_g rfl (fun S'=>zH (rows:=[zt e.1]) hT rfl rfl rfl rfl rfl rfl rfl rfl ⟨rfl,rfl⟩) ?_
          | refine q_g rfl (fun S'=>zH (rows:=[zt e.2]) hT rfl rfl rfl rfl rfl rfl rfl rfl ⟨rfl,rfl⟩) ?_)
         refine zS rfl (eff rfl rfl (zx (news:=[zt e.1]) hT rfl rfl rfl rfl rfl rfl rfl rfl rfl rfl ht1 .here (yc _) (yc [e.1]) (wK [e.1]) (by simp only [List.length_cons,List.length_nil,List.length_map,List.length_range]; omega) fun t1 ht1'=>And.intro (And.intro ⟨_,_,_,(.there (.there (.there .here))),(yK (v:=.slice w.2.2 (((List.range w.1).map (xE y.pure (·.2) f)).map zt)) rfl (hat _ _ (by rw [wQ]; exact hfl)))⟩ trivial) ?_))
         refine god hT 2 rfl ?_;conv=>whnf
         refine zS rfl (eff rfl rfl (zx (news:=[zt e.2]) hT rfl rfl rfl rfl rfl rfl rfl rfl rfl rfl ht2 (.there .here) (yc _) (yc [e.2]) (wK [e.2]) (by simp only [List.length_cons,List.length_nil,List.length_map,List.length_range]; omega) fun t2 ht2'=>And.intro trivial ?_))
         refine god hT 2 rfl ?_;conv=>whnf
         refine q_g rfl (fun S'=>(za hT rfl rfl rfl rfl rfl (by omega) (by omega)).qs) ?_
         refine god hT 2 rfl ?_;conv=>whnf
         refine zS rfl (eff rfl rfl (zI (cs':=(w8 m.funcs.length f (wx m y.pure seen (·.1))).set f (.slice t1 (((List.range w.1).map (xE y.pure (·.1) f)).map zt++[zt e.1]))) hT rfl rfl rfl (.there (.there .here)) (hst _ _ _ (by rw [wQ]; exact hfl) rfl rfl) (And.intro trivial ?_)))
         refine god hT 2 rfl ?_;conv=>whnf
         refine q_g rfl (fun S'=>(za hT rfl rfl rfl rfl rfl (by omega) (by omega)).qs) ?_
         refine god hT 2 rfl ?_;conv=>whnf
         refine zS rfl (eff rfl rfl (zI (cs':=(w8 m.funcs.length f (wx m y.pure seen (·.2))).set f (.slice t2 (((List.range w.1).map (xE y.pure (·.2) f)).map zt++[zt e.2]))) hT rfl rfl rfl (.there (.there (.there .here))) (hst _ _ _ (by rw [wQ]; exact hfl) rfl rfl) (And.intro trivial ?_)))
         refine god hT 2 rfl ?_;conv=>whnf
         refine zV rfl ?_
         refine gz hT rfl ?_;conv=>whnf
         refine zB rfl (zU rfl rfl rfl (by omega)) ?_
         refine gz hT rfl ?_;conv=>whnf
         have e1:xE y.pure (·.1) f w.1=e.1:=by unfold xE; rw [show zL y.pure.at_ _=_ from hf67]
         have e2:xE y.pure (·.2) f w.1=e.2:=by unfold xE; rw [show zL y.pure.at_ _=_ from hf67]
         exact ⟨(w.1+1,t1,t2),⟨hj,ht1',ht2'⟩,by dsimp only; omega,⟨lk rfl,lk rfl,lk rfl,lk rfl,lk rfl,lk rfl,lk rfl,lk rfl,lk rfl,lk rfl,lk rfl,lk rfl,lk rfl,lk rfl,lk rfl,lk rfl,trivial⟩,by
          dsimp only
          simp only [List.range_succ,List.map_append,List.map_cons,List.map_nil,e1,e2]
          exact .refl _⟩
      ·simp only [decide_eq_false_iff_not,Int.ofNat_lt] at hj
       have hje:w.1=(m.fn (f:Int)).code.length:=by omega
       refine gz hT rfl ?_;conv=>whnf
       refine zB rfl (zU rfl rfl rfl (by omega)) ?_
       refine gz hT rfl ?_;conv=>whnf
       refine ⟨f+1,hfl,by omega,⟨lk rfl,lk rfl,lk rfl,lk rfl,lk rfl,lk rfl,lk rfl,lk rfl,lk rfl,lk rfl,lk rfl,lk rfl,lk rfl,trivial⟩,?_⟩
       rw [hje,← hr1,← hr2]
       exact .drop (.drop (.cells (zCn _ hfl _) (.cells (zCn _ hfl _) (.refl _))))
     ·rw [if_neg hin] at h71
      have hr1:wx m y.pure seen (·.1) f=[]:=by unfold wx; rw [if_neg hin]
      have hr2:wx m y.pure seen (·.2) f=[]:=by unfold wx; rw [if_neg hin]
      refine zW (fun j:Nat=>([(1,.pin (ze m) 0),(2,.ptr b2 0),(4,.ptr b4 0),(6,.int .i64 m.threads[i]),(7,.ptr bx 0),(9,.map bs),(10,.ref b10 0 m.funcs.length m.funcs.length),(11,.ref b11 0 m.funcs.length m.funcs.length),(12,.int .i64 f),(21,.slice .no (m.threads.map zt)),(22,.int .i64 m.threads.length),(23,.int .i64 i),(75,.int .i64 m.funcs.length),(76,.int .i64 f),(85,.int .i64 (m.fn (f:Int)).code.length),(86,.int .i64 j)],.cells b10 (w8 m.funcs.length f (wx m y.pure seen (·.1))) 25::.cells b11 (w8 m.funcs.length f (wx m y.pure seen (·.2))) 25::.map bs (seen.map zAl)::(fdS m bx ba bc y++R))) (fun j=>j=0) (fun j=>j) 0 rfl ⟨⟨lk rfl,lk rfl,lk rfl,lk rfl,lk rfl,lk rfl,lk rfl,lk rfl,lk rfl,lk rfl,lk rfl,lk rfl,lk rfl,lk rfl,lk rfl,lk rfl,trivial⟩,.refl _⟩ ?_
      rintro j rfl
      refine gz hT rfl ?_;conv=>whnf
      refine zC rfl (fun hj=>?_) (fun hj=>?_)
      ·refine gz hT rfl ?_;conv=>whnf
       refine zB rfl (yr hT rfl rfl rfl rfl rfl rfl (.there (.there .here)) h71) ?_
       refine gz hT rfl ?_;conv=>whnf
       refine zB rfl (zU rfl rfl rfl (by omega)) ?_
       refine gz hT rfl ?_;conv=>whnf
       exact ⟨f+1,hfl,by omega,⟨lk rfl,lk rfl,lk rfl,lk rfl,lk rfl,lk rfl,lk rfl,lk rfl,lk rfl,lk rfl,lk rfl,lk rfl,lk rfl,trivial⟩,.cells (colV_skip _ hfl hr1) (.cells (colV_skip _ hfl hr2) (.refl _))⟩
      ·simp only [decide_eq_false_iff_not] at hj
       omega
    ·simp only [decide_eq_false_iff_not,Int.ofNat_lt] at hfl
     have hfn:f=m.funcs.length:=by omega
     subst hfn
     refine ke (t:=10) (rows:=(yU m y.pure seen (·.1)).map xZ) (sz:=1) rfl .here (colV_all _).symm (yO (g:=xZ) (n:=1) (fun _=>rfl) _) (by simp [yU]) (Nat.le_refl _) ?_
     refine ke (t:=11) (rows:=(yU m y.pure seen (·.2)).map xZ) (sz:=1) rfl (.there .here) (colV_all _).symm (yO (g:=xZ) (n:=1) (fun _=>rfl) _) (by simp [yU]) (Nat.le_refl _) ?_
     refine wJ (S':=R) (.drop (.drop (.drop (Sub.dropL _ _)))) ?_
     subst hR
     refine gz hT rfl ?_;conv=>whnf
     intro id
     refine zd hT rfl rfl ?_ id
     repeat' (first
      | (refine god hT 2 rfl ?_;conv=>whnf)
      | refine zV rfl ?_
      | refine q_g rfl (fun S'=>(zK hT rfl rfl rfl rfl rfl rfl (List.length_map _)).qs) ?_
      | refine zk rfl rfl rfl rfl (fun h=>?_) (fun h=>?_)
      | refine yD hT rfl rfl rfl .here rfl ?_
      | refine q_g rfl (fun S'=>zH (rows:=[yy (yU m y.pure seen (·.1))]) hT rfl rfl rfl rfl rfl rfl rfl rfl ⟨rfl,rfl⟩) ?_
      | refine q_g rfl (fun S'=>zH (rows:=[yy (yU m y.pure seen (·.2))]) hT rfl rfl rfl rfl rfl rfl rfl rfl ⟨rfl,rfl⟩) ?_)
     have hl12:=hts.lens
     rw [List.length_take] at hl12
     have hl1:must.length < 2000000:=by omega
     have hl2:may.length < 2000000:=by omega
     refine zS rfl (eff rfl rfl (zx (news:=[yy (yU m y.pure seen (·.1))]) hT rfl rfl rfl rfl rfl rfl rfl rfl rfl rfl htm (.there (.there .here)) (yO (g:=yy) (n:=1) (fun _=>rfl) _) (yO (g:=yy) (n:=1) (fun _=>rfl) [yU m y.pure seen (·.1)]) (xr (g:=yy) (fun _=>rfl) [yU m y.pure seen (·.1)]) (by simp only [List.length_cons,List.length_nil,List.length_map]; omega) fun u1 hu1=>And.intro (And.intro ⟨_,_,_,.here,rfl⟩ trivial) ?_))
     refine god hT 2 rfl ?_;conv=>whnf
     refine zS rfl (eff rfl rfl (zx (news:=[yy (yU m y.pure seen (·.2))]) hT rfl rfl rfl rfl rfl rfl rfl rfl rfl rfl hta (.there (.there (.there .here))) (yO (g:=yy) (n:=1) (fun _=>rfl) _) (yO (g:=yy) (n:=1) (fun _=>rfl) [yU m y.pure seen (·.2)]) (xr (g:=yy) (fun _=>rfl) [yU m y.pure seen (·.2)]) (by simp only [List.length_cons,List.length_nil,List.length_map]; omega) fun u2 hu2=>And.intro trivial ?_))
     refine god hT 2 rfl ?_;conv=>whnf
     refine zS rfl (eff rfl rfl (zI (cs':=[.slice u1 (must.map yy++[yy (yU m y.pure seen (·.1))]),.slice ta (may.map yy)]) hT rfl rfl rfl .here rfl (And.intro trivial ?_)))
     refine god hT 2 rfl ?_;conv=>whnf
     refine zS rfl (eff rfl rfl (zI (cs':=[.slice u1 (must.map yy++[yy (yU m y.pure seen (·.1))]),.slice u2 (may.map yy++[yy (yU m y.pure seen (·.2))])]) hT rfl rfl rfl .here rfl (And.intro trivial ?_)))
     refine god hT 2 rfl ?_;conv=>whnf
     refine zV rfl ?_
     refine gz hT rfl ?_;conv=>whnf
     refine zB rfl (zU rfl rfl rfl (by omega)) ?_
     refine gz hT rfl ?_;conv=>whnf
     refine ⟨(i+1,must++[yU m y.pure seen (·.1)],may++[yU m y.pure seen (·.2)],u1,u2),⟨hlt,?_,hu1,hu2⟩,by dsimp only; omega,⟨lk rfl,lk rfl,lk rfl,lk rfl,lk rfl,lk rfl,trivial⟩,by dsimp only; rw [List.map_append,List.map_append]; exact .refl _⟩
     dsimp only
     rw [List.take_succ_eq_append_getElem hlt]
     exact hts.snoc ⟨y.pure,hdone,by rw [hseen],by rw [hseen]⟩
 ·simp only [decide_eq_false_iff_not,Int.ofNat_lt] at hlt
  have e:m.threads.take i=m.threads:=List.take_of_length_le (by omega)
  rw [e] at hts
  refine wJ (S':=[.cells b4 (yY must may) 81,.cells b2 [.slice .zero [],.slice .zero []] 81]) (.cells (.cons (V.Le.slice _ _) (.cons (V.Le.slice _ _) .nil)) (.keep .nil)) ?_
  refine gz hT rfl ?_;conv=>whnf
  refine zB rfl (zT hT rfl rfl .here rfl) ?_
  refine gz hT rfl ?_;conv=>whnf
  refine zA rfl (zI (cs':=yY must may) hT rfl rfl rfl (.there .here) rfl ?_)
  refine gz hT rfl ?_;conv=>whnf
  refine zQ (.cell rfl (.there .here) rfl (.tmp rfl .nil)) ?_
  rw [if_pos hr]
  exact ⟨must,may,hts,rfl⟩
end
end Go.Vw
namespace Go.Vw
open Go.RowKit Go.Am Go.Proofs
theorem qV {m:MModule} (h:zO m=true):∀ p,xA m p→OpFacts m m.locks.length p ((m.fn p.1).op p.2):=fun p ⟨h1,h2,h3⟩=>by
 have hcall:=zB4 h
 simp only [zO,Bool.and_eq_true,List.all_eq_true] at h
 obtain ⟨hfr,hr⟩:=h
 obtain ⟨hm,_⟩:=qT hfr
 have hb:=belowB_one.1 h1
 have hi:p.1.toNat < m.funcs.length:=by omega
 have hmem:m.fn p.1∈m.funcs:=by
  unfold MModule.fn
  rw [List.getElem?_eq_getElem hi]
  exact List.getElem_mem hi
 have hn:p.2.toNat < (m.fn p.1).code.length:=by omega
 have hop:(m.fn p.1).op p.2∈(m.fn p.1).code:=by
  unfold MFunc.op
  rw [List.getElem?_eq_getElem hn]
  exact List.getElem_mem hn
 have ho:=hr _ hmem _ hop
 generalize (m.fn p.1).op p.2=o at ho hop
 simp only [xJ,Bool.and_eq_true] at ho
 obtain ⟨⟨⟨⟨hf,_⟩,_⟩,hnx⟩,hel⟩:=ho
 refine ⟨fun hk=>?_,fun hk=>?_,fun hk=>?_,fun hk=>?_⟩
 ·rw [if_neg hk] at hnx
  have:=belowB_one.1 hnx
  exact ⟨h1,this.1,this.2⟩
 ·rw [if_pos hk] at hel
  have:=belowB_one.1 hel
  exact ⟨h1,this.1,this.2⟩
 ·have hc:=hcall _ hmem _ hop hk
  have:=(MModule.fn_ok hm hc).code.1
  exact ⟨hc,hc,by show (0:Int)≤0; omega,by show (0:Int) < _; dsimp only; omega⟩
 ·have:zM m.locks.length [o.a]=true:=by
   rcases hk with hk | hk
   ·simp only [xv,uG,hk] at hf
    simp at hf
    exact hf.1
   ·simp only [xv,uG,hk] at hf
    simp at hf
    exact hf.1
  exact belowB_one.1 this
end Go.Vw
namespace Go.Vw
open Go.RowKit Go.Am Go.Proofs
theorem vc_below [Drw] (hd:¬ Drw.on) {P:Program} {f:FuncId} {S:Hp} {b:Bool} (h:∀ F w,Sat F w S→Calls P f #[] w fun e w'=>e = .returned (.bool b)∧Below w.heap.size w w'):VC P f [] S fun v S'=>v = .ob b∧S'=S:=fun F w us s a=>by
 have hus:us=#[]:=by
  have:=a.length
  simp at this
  exact Array.eq_empty_of_size_eq_zero this.symm
 subst hus
 refine (h F w s).mono ?_
 rintro e w' ⟨rfl,hb⟩
 obtain ⟨b1,b2,b3,b4,b5⟩:=hb
 have g:Grow F w F w':=⟨fun _ _ h=>h,fun b k hk=>by
  unfold World.cell?
  rw [b5 b (s.fz_lt hk)]⟩
 refine ⟨.ob b,.bool b,F,S,rfl,.ob b,⟨fun c k hk=>?_,s.nodup,fun x hx=>(s.ok x hx).mono g fun c hc=>⟨b5 c ((s.ok x hx).lt hc),fun _ h=>h⟩⟩,⟨g,b1,b2,b3,b4,fun c hc _=>⟨b5 c hc,fun _ h=>h⟩,fun _ h=>.inl h,fun h=>absurd h hd⟩,rfl,rfl⟩
 obtain ⟨v,e⟩:=s.fz c k hk
 exact ⟨v,(g.cell c k hk).trans e⟩
end Go.Vw
namespace Go.Vw
open Go.RowKit Go.Am Go.Proofs
theorem andI_zero (x:Int):ym x 0=0:=by
 unfold ym
 rw [show BitVec.ofInt IntKind.i64.bits (0:Int)=0#_ from rfl,BitVec.and_zero]
 rfl
def Nil0 (q:P2) (x:Fp):Prop:=∃ l,zL x.at_ q=some l∧l.1=0
theorem kq {q:P2} {x:Fp} (h:Nil0 q x) (p l:P2):Nil0 q (yP x p l):=by
 unfold yP
 split
 ·exact h
 ·obtain ⟨o,ho,h0⟩:=h
  unfold Nil0
  dsimp only
  rw [yW]
  split
  ·next e =>
   subst e
   refine ⟨_,rfl,?_⟩
   unfold meet
   rw [ho]
   dsimp only
   rw [h0]; exact andI_zero _
  ·exact ⟨o,ho,h0⟩
theorem nil_back {q:P2} {x:Fp} (h:Nil0 q x) (a:Int) (b:P2):Nil0 q (yJ x a b):=by
 unfold yJ
 split <;> exact h
theorem nil_ret {q:P2} {a:Int} {b:P2}:∀ (c:List MOp) (i:Nat) {x:Fp},Nil0 q x→Nil0 q (yI x a b i c)
 | [],_,_,h=>h
 | o::c,i,x,h=>by
   unfold yI
   refine nil_ret c (i+1) ?_
   split
   ·split
    ·exact kq h _ _
    ·exact h
   ·exact h
theorem nil_fold {q l:P2}:∀ (ps:List P2) {x:Fp},Nil0 q x→Nil0 q (ps.foldl (fun x b=>yP x b l) x)
 | [],_,h=>h
 | _::ps,_,h=>nil_fold ps (kq h _ _)
theorem nil_leave {m:MModule} {q:P2} {x:Fp} (h:Nil0 q x) (p:P2):Nil0 q (xU m x p):=by
 unfold xU
 dsimp only
 split
 ·exact nil_fold _ h
 ·split
  ·exact nil_ret _ _ (kq (nil_back h _ _) _ _)
  ·refine kq ?_ _ _
   split
   ·exact kq h _ _
   ·exact h
theorem nil_done {m:MModule} {q:P2} {x y:Fp} (h:Done m x y):Nil0 q x→Nil0 q y:=by
 induction h with
 | stop _=>exact id
 | @step x y p r h _ ih=>exact fun k=>ih (nil_leave (x:={ x with row:=r }) k p)
theorem nil_start (f:Int):Nil0 (f,0) (qv f):=by
 unfold qv yP
 rw [if_neg (by simp [zL])]
 refine ⟨meet [] (f,0) (0,0),?_,rfl⟩
 dsimp only
 rw [yW,if_pos rfl]
theorem seen_first (m:MModule) (f:Int):f∈wd m f:=by
 unfold wd
 unfold yR
 rw [if_neg (by simp)]
 have key:∀ (c:List MOp) (s:List Int),f∈s→f∈c.foldl (fun s o=>if o.kind=22 then yR m m.funcs.length o.a s else s) s:=fun c=>by
  induction c with
  | nil=>intro s h; exact h
  | cons o c ih =>
    intro s h
    refine ih _ ?_
    dsimp only
    split
    ·exact qu m _ o.a s f h
    ·exact h
 exact key _ _ (by simp)
def allI (L:Nat):Int:=wg L - 1
def CellOk (L:Nat) (u v:Int):Prop:=(u = -1∧v = -1)∨(0≤u∧0≤v∧ym u v=u∧ym v (allI L)=v)
theorem allI_nat {L:Nat} (hL:L≤8):allI L=((2 ^ L - 1:Nat):Int):=by
 have:L=0∨L=1∨L=2∨L=3∨L=4∨L=5∨L=6∨L=7∨L=8:=by omega
 rcases this with rfl | rfl | rfl | rfl | rfl | rfl | rfl | rfl | rfl <;> rfl
theorem LockOk.cell {L:Nat} (hL:L≤8) {l:P2} (h:LockOk L l):CellOk L l.1 l.2:=by
 obtain ⟨u,v,rfl,a1,a2⟩:=h.ex
 have hv:v < 256:=yi fun i hi=>by have:=a2 i hi; omega
 have hu:u < 256:=yi fun i hi=>by have:=a2 i (a1 i hi); omega
 have hvL:v < 2 ^ L:=Nat.lt_pow_two_of_testBit (n:=L) v fun i hi=>by
  cases hb:v.testBit i
  ·rfl
  ·have:=a2 i hb; omega
 have h1:u &&& v=u:=Nat.eq_of_testBit_eq fun i=>by
  rw [Nat.testBit_and]
  cases hb:u.testBit i
  ·rfl
  ·rw [a1 i hb]; rfl
 have hp:2 ^ L≤2 ^ 8:=Nat.pow_le_pow_right (by omega) hL
 have h2:v &&& (2 ^ L - 1)=v:=by rw [Nat.and_two_pow_sub_one_eq_mod,Nat.mod_eq_of_lt hvL]
 refine .inr ⟨by dsimp only; omega,by dsimp only; omega,?_,?_⟩
 ·dsimp only; rw [uc hu hv,h1]
 ·dsimp only; rw [allI_nat hL,uc hv (by omega),h2]
structure ThreadOk (m:MModule) (f:Int) (a b:List (List Int)):Prop where
 la:a.length=m.funcs.length
 lb:b.length=m.funcs.length
 short:∀ (g:Nat) (h1:g < a.length),a[g].length < 2000000
 row:∀ (g:Nat) (h1:g < a.length) (h2:g < b.length),a[g].length=b[g].length
 cell:∀ (g n:Nat) (h1:g < a.length) (h2:g < b.length) (h3:n < a[g].length) (h4:n < b[g].length),CellOk m.locks.length a[g][n] b[g][n]
 first:∃ (h1:f.toNat < a.length) (h2:0 < a[f.toNat].length),a[f.toNat][0]=0
theorem zBM {y:Fp} {sel:P2→Int} {f n:Nat} {l:P2} (h:zL y.at_ ((f:Int),(n:Int))=some l):xE y sel f n=sel l:=by unfold xE; rw [h]
theorem zEz {y:Fp} {sel:P2→Int} {f n:Nat} (h:zL y.at_ ((f:Int),(n:Int))=none):xE y sel f n = -1:=by unfold xE; rw [h]
theorem qw {m:MModule} (hs:Small m) (hr:zO m=true) {f:Int} (hf:f∈m.threads) {a b:List (List Int)} (h:Thread m f a b):ThreadOk m f a b:=by
 obtain ⟨y,hd,rfl,rfl⟩:=h
 have hfr:xt m=true:=by
  simp only [zO,Bool.and_eq_true] at hr
  exact hr.1
 obtain ⟨hm,_⟩:=qT hfr
 obtain ⟨hL,_⟩:=xB hfr
 have hb:=zAU hr hf
 have hb1:=belowB_one.1 hb
 have hv0:xA m (f,0):=⟨hb,by show (0:Int)≤0; omega,by have:=(MModule.fn_ok hm hb).code.1; show (0:Int) < _; dsimp only; omega⟩
 have inv0:Inv m m.locks.length (qv f):=by
  have e0:Inv m m.locks.length ⟨[],[],[]⟩:=⟨fun p l h=>(by cases h),fun p h=>(by cases h),fun c h=>(by cases h)⟩
  exact (ww hL e0 hv0 (l:=(0,0)) ⟨0,0,rfl,fun i h=>h,fun i h=>by simp at h⟩).1
 have inv:=inv_done hL (qV hr) hd inv0
 have len:∀ sel,(yU m y (wd m f) sel).length=m.funcs.length:=fun sel=>by simp [yU]
 have at_:∀ sel g (h:g < (yU m y (wd m f) sel).length),(yU m y (wd m f) sel)[g]=wx m y (wd m f) sel g:=fun sel g h=>by simp [yU]
 refine ⟨len _,len _,fun g h1=>?_,fun g h1 h2=>?_,fun g n h1 h2 h3 h4=>?_,?_⟩
 ·rw [at_]
  have hg:g < m.funcs.length:=by rw [← len (·.1)]; exact h1
  have hc:(m.fn (g:Int)).code.length < 2000000:=by
   unfold MModule.fn
   rw [Int.toNat_natCast,List.getElem?_eq_getElem hg]
   exact hs.code _ (List.getElem_mem hg)
  unfold wx
  split
  ·rw [List.length_map,List.length_range]; exact hc
  ·decide
 ·rw [at_,at_]
  unfold wx
  split <;> simp
 ·have cc:∀ sel (h1:g < (yU m y (wd m f) sel).length) (h3:n < (yU m y (wd m f) sel)[g].length),(yU m y (wd m f) sel)[g][n]=xE y sel g n:=fun sel h1 h3=>by
   have e:=at_ sel g h1
   simp only [e] at h3 ⊢
   unfold wx at h3 ⊢
   by_cases hin:(g:Int)∈wd m f
   ·simp only [if_pos hin,List.getElem_map,List.getElem_range]
   ·simp only [if_neg hin,List.length_nil,Nat.not_lt_zero] at h3
  rw [cc _ h1 h3,cc _ h2 h4]
  cases hfm:zL y.at_ ((g:Int),(n:Int)) with
  | none=>rw [zEz hfm,zEz hfm]; exact .inl ⟨rfl,rfl⟩
  | some l=>rw [zBM hfm,zBM hfm]; exact (inv.at_ _ _ hfm).2.cell hL
 ·obtain ⟨l,hl,h0⟩:=nil_done hd (nil_start f)
  have h1:f.toNat < (yU m y (wd m f) (·.1)).length:=by rw [len]; omega
  have e:=at_ (·.1) f.toNat h1
  have hcast:((f.toNat:Nat):Int)=f:=Int.toNat_of_nonneg hb1.1
  have er:wx m y (wd m f) (·.1) f.toNat=(List.range (m.fn f).code.length).map (xE y (·.1) f.toNat):=by
   unfold wx
   rw [hcast,if_pos (seen_first m f)]
  have hc:=(MModule.fn_ok hm hb).code.1
  have hl0:0 < (yU m y (wd m f) (·.1))[f.toNat].length:=by rw [e,er,List.length_map,List.length_range]; exact hc
  refine ⟨h1,hl0,?_⟩
  simp only [e,er,List.getElem_map,List.getElem_range]
  have:zL y.at_ (((f.toNat:Nat):Int),((0:Nat):Int))=some l:=by rw [hcast]; exact hl
  rw [zBM this,h0]
theorem zE0 {m:MModule}:∀ {fs us vs},Threads m fs us vs→∀ (i:Nat) (h1:i < fs.length) (h2:i < us.length) (h3:i < vs.length),Thread m fs[i] us[i] vs[i]
 | _,_,_,.nil,_,h1,_,_=>by cases h1
 | _,_,_,.cons h k,0,_,_,_=>h
 | _,_,_,.cons h k,i+1,h1,h2,h3=>zE0 k i (by simpa using h1) (by simpa using h2) (by simpa using h3)
end Go.Vw
namespace Go.Vw
open Go.RowKit Go.Am Go.Proofs
theorem cells3:Tryz.prog.cellsOf 3=1:=by kernel_rfl
theorem cells9:Tryz.prog.cellsOf 9=1:=by kernel_rfl
theorem cells123:Tryz.prog.cellsOf 174=2:=by kernel_rfl
theorem cells85:Tryz.prog.cellsOf 62=12:=by kernel_rfl
theorem cells52:Tryz.prog.cellsOf 50=5:=by kernel_rfl
def zB6 (B:Nat) (s:MSized):Prop:=s.name.size≤B
def OpOk (B:Nat) (o:MOp):Prop:=o.args.length≤B
def FuncOk (B:Nat) (f:MFunc):Prop:=f.name.size≤B∧f.code.length≤B∧∀ o∈f.code,OpOk B o
structure ModOk (B:Nat) (m:MModule):Prop where
 globals:m.globals.length≤B∧∀ s∈m.globals,zB6 B s
 structs:m.structs.length≤B∧∀ s∈m.structs,zB6 B s
 chans:m.chans.length≤B∧∀ s∈m.chans,zB6 B s
 locks:m.locks.length≤B∧∀ s∈m.locks,s.size≤B
 inputs:m.inputs.length≤B∧∀ s∈m.inputs,s.size≤B
 sinks:m.sinks.length≤B∧∀ s∈m.sinks,s.size≤B
 hatches:m.hatches.length≤B∧∀ s∈m.hatches,s.size≤B
 funcs:m.funcs.length≤B∧∀ f∈m.funcs,FuncOk B f
 threads:m.threads.length≤B
theorem ModOk.small {B:Nat} (hB:B < 2000000) {m:MModule} (h:ModOk B m):Small m :=
 ⟨Nat.lt_of_le_of_lt h.globals.1 hB,Nat.lt_of_le_of_lt h.structs.1 hB,Nat.lt_of_le_of_lt h.chans.1 hB,Nat.lt_of_le_of_lt h.locks.1 hB,Nat.lt_of_le_of_lt h.inputs.1 hB,Nat.lt_of_le_of_lt h.sinks.1 hB,Nat.lt_of_le_of_lt h.hatches.1 hB,Nat.lt_of_le_of_lt h.funcs.1 hB,Nat.lt_of_le_of_lt h.threads hB,
  fun f hf=>Nat.lt_of_le_of_lt (h.funcs.2 f hf).2.1 hB,fun f hf o ho=>Nat.lt_of_le_of_lt ((h.funcs.2 f hf).2.2 o ho) hB⟩
theorem ModOk.smallN {B:Nat} (hB:B < 2000000) {m:MModule} (h:ModOk B m):SmallN m :=
 ⟨fun s hs=>Nat.lt_of_le_of_lt (h.globals.2 s hs) hB,fun s hs=>Nat.lt_of_le_of_lt (h.structs.2 s hs) hB,fun s hs=>Nat.lt_of_le_of_lt (h.chans.2 s hs) hB,fun s hs=>Nat.lt_of_le_of_lt (h.locks.2 s hs) hB,fun s hs=>Nat.lt_of_le_of_lt (h.inputs.2 s hs) hB,fun s hs=>Nat.lt_of_le_of_lt (h.sinks.2 s hs) hB,fun s hs=>Nat.lt_of_le_of_lt (h.hatches.2 s hs) hB,
  fun f hf=>Nat.lt_of_le_of_lt (h.funcs.2 f hf).1 hB⟩
section
variable {H:Type} {enc:TypeId×Value→H} {w:World} {K:DataW H→Nat} (hK:Bulk K) {B:Nat}
theorem rInt:Reads enc Tryz.prog w K B 3 zt (fun _=>True):=.int Tryz.underlying3
include hK
theorem rStr:Reads enc Tryz.prog w K B 9 vi (fun s=>s.size≤B):=.str hK Tryz.underlying9
theorem rInts:Reads enc Tryz.prog w K B 25 (fun xs:List Int=>[.slice .no (xs.map zt)]) (fun xs=>xs.length≤B) :=
 (Reads.slice hK Tryz.underlying25 rInt (fun _=>cells3.symm) (by rw [cells3]; decide)).map id (fun _=>rfl) fun _ h=>h.1
theorem rStrs:Reads enc Tryz.prog w K B 23 (fun xs:List ByteArray=>[.slice .no (xs.map vi)]) (fun xs=>xs.length≤B∧∀ s∈xs,s.size≤B) :=
 Reads.slice hK Tryz.underlying23 (rStr hK) (fun _=>cells9.symm) (by rw [cells9]; decide)
theorem rSized:Reads enc Tryz.prog w K B 174 yX (zB6 B) :=
 (Reads.struct hK Tryz.underlying174 (ts:=[9,3]) (by kernel_rfl) (by kernel_rfl) (.cons (rStr hK) (.cons rInt .nil))).map (fun p=>⟨p.1,p.2.1⟩) (fun _=>rfl) fun _ h=>h.1
theorem rSizeds:Reads enc Tryz.prog w K B 22 (fun xs:List MSized=>[.slice .no (xs.map yX)]) (fun xs=>xs.length≤B∧∀ s∈xs,zB6 B s) :=
 Reads.slice hK Tryz.underlying22 (rSized hK) (fun _=>cells123.symm) (by rw [cells123]; decide)
theorem rOp:Reads enc Tryz.prog w K B 62 opV (OpOk B) :=
 (Reads.struct hK Tryz.underlying62 (ts:=[3,3,3,3,3,3,3,3,25,3,3,3]) (by kernel_rfl) (by kernel_rfl) (.cons rInt (.cons rInt (.cons rInt (.cons rInt (.cons rInt (.cons rInt (.cons rInt (.cons rInt (.cons (rInts hK) (.cons rInt (.cons rInt (.cons rInt .nil))))))))))))).map
  (fun p=>⟨p.1,p.2.1,p.2.2.1,p.2.2.2.1,p.2.2.2.2.1,p.2.2.2.2.2.1,p.2.2.2.2.2.2.1,p.2.2.2.2.2.2.2.1,p.2.2.2.2.2.2.2.2.1,p.2.2.2.2.2.2.2.2.2.1,p.2.2.2.2.2.2.2.2.2.2.1,p.2.2.2.2.2.2.2.2.2.2.2.1⟩) (fun _=>rfl) fun _ h=>h.2.2.2.2.2.2.2.2.1
theorem rOps:Reads enc Tryz.prog w K B 48 (fun xs:List MOp=>[.slice .no (xs.map opV)]) (fun xs=>xs.length≤B∧∀ o∈xs,OpOk B o) :=
 Reads.slice hK Tryz.underlying48 (rOp hK) (fun _=>cells85.symm) (by rw [cells85]; decide)
theorem rFunc:Reads enc Tryz.prog w K B 50 yt (FuncOk B) :=
 (Reads.struct hK Tryz.underlying50 (ts:=[9,3,3,3,48]) (by kernel_rfl) (by kernel_rfl) (.cons (rStr hK) (.cons rInt (.cons rInt (.cons rInt (.cons (rOps hK) .nil)))))).map
  (fun p=>⟨p.1,p.2.1,p.2.2.1,p.2.2.2.1,p.2.2.2.2.1⟩) (fun _=>rfl) fun _ h=>⟨h.1,h.2.2.2.2.1⟩
theorem rFuncs:Reads enc Tryz.prog w K B 24 (fun xs:List MFunc=>[.slice .no (xs.map yt)]) (fun xs=>xs.length≤B∧∀ f∈xs,FuncOk B f) :=
 Reads.slice hK Tryz.underlying24 (rFunc hK) (fun _=>cells52.symm) (by rw [cells52]; decide)
theorem rMod:Reads enc Tryz.prog w K B 27 ze (ModOk B) :=
 (Reads.struct hK Tryz.underlying27 (ts:=[22,22,22,23,23,23,23,24,25]) (by kernel_rfl) (by kernel_rfl) (.cons (rSizeds hK) (.cons (rSizeds hK) (.cons (rSizeds hK) (.cons (rStrs hK) (.cons (rStrs hK) (.cons (rStrs hK) (.cons (rStrs hK) (.cons (rFuncs hK) (.cons (rInts hK) .nil)))))))))).map
  (fun p=>⟨p.1,p.2.1,p.2.2.1,p.2.2.2.1,p.2.2.2.2.1,p.2.2.2.2.2.1,p.2.2.2.2.2.2.1,p.2.2.2.2.2.2.2.1,p.2.2.2.2.2.2.2.2.1⟩) (fun _=>rfl)
  fun _ h=>⟨h.1,h.2.1,h.2.2.1,h.2.2.2.1,h.2.2.2.2.1,h.2.2.2.2.2.1,h.2.2.2.2.2.2.1,h.2.2.2.2.2.2.2.1,h.2.2.2.2.2.2.2.2.1⟩
end
end Go.Vw
namespace Go.Vw
open Go.RowKit Go.Am Go.Proofs
attribute [local irreducible] yE zv zq VD VDn VDq Ret
theorem take_same {α:Type} {xs ys:List α} {i:Nat} (h1:i < xs.length) (h2:i < ys.length) (ht:xs.take i=ys.take i) (he:xs[i]=ys[i]):xs.take (i+1)=ys.take (i+1):=by
 rw [List.take_succ_eq_append_getElem h1,List.take_succ_eq_append_getElem h2,ht,he]
theorem take_all {α:Type} {xs ys:List α} {i:Nat} (h1:¬ i < xs.length) (hl:xs.length=ys.length) (ht:xs.take i=ys.take i):xs=ys:=by
 rw [List.take_of_length_le (by omega),List.take_of_length_le (by omega)] at ht
 exact ht
section
variable [Drw] (hT:TabOk tab Tryz.prog)
include hT
theorem sameInts {t1 t2:Tok} (xs ys:List Int) (hl:xs.length < 2000000):Pure Tryz.prog 22 [.slice t1 (xs.map zt),.slice t2 (ys.map zt)] (.ob (decide (xs=ys))):=by
 refine VC.code hT 26 rfl rfl rfl rfl fun F W S0=>?_
 repeat' (first
  | (refine gz hT rfl ?_;conv=>whnf)
  | refine zA rfl (zN rfl rfl rfl ?_)
  | refine zA rfl (zH hT rfl rfl rfl rfl rfl rfl rfl rfl ?_)
  | refine zB rfl (zK hT rfl rfl rfl rfl rfl rfl (List.length_map _)) ?_
  | refine zG rfl rfl rfl rfl (fun h=>?_) (fun h=>?_))
 refine zC rfl (fun h=>?_) (fun h=>?_)
 ·refine gz hT rfl ?_;conv=>whnf
  refine zP rfl rfl rfl ?_
  rw [decide_eq_false fun e=>by subst e; simp at h]
 ·simp only [Bool.not_eq_false',decide_eq_true_eq,Int.ofNat_inj] at h
  refine gz hT rfl ?_;conv=>whnf
  refine zW (fun i:Nat=>([(0,.slice t1 (xs.map zt)),(1,.slice t2 (ys.map zt)),(5,.int .i64 i)],[])) (fun i=>i≤xs.length∧xs.take i=ys.take i) (fun i=>xs.length - i) 0 ⟨Nat.zero_le _,rfl⟩ ⟨⟨lk rfl,lk rfl,lk rfl,trivial⟩,.nil⟩ ?_
  rintro i ⟨hi,ht⟩
  repeat' (first
   | (refine gz hT rfl ?_;conv=>whnf)
   | refine zA rfl (zN rfl rfl rfl ?_)
   | refine zA rfl (zH hT rfl rfl rfl rfl rfl rfl rfl rfl ?_)
   | refine zB rfl (zK hT rfl rfl rfl rfl rfl rfl (List.length_map _)) ?_
   | refine zG rfl rfl rfl rfl (fun h=>?_) (fun h=>?_))
  refine zC rfl (fun hlt=>?_) (fun hlt=>?_)
  ·simp only [decide_eq_true_eq,Int.ofNat_lt] at hlt
   have hlt2:i < ys.length:=by omega
   refine gz hT rfl ?_;conv=>whnf
   intro id
   refine zd hT rfl rfl ?_ id
   repeat' (first
    | (refine god hT 2 rfl ?_;conv=>whnf)
    | refine zV rfl ?_
    | refine q_g rfl (fun S'=>(zK hT rfl rfl rfl rfl rfl rfl (List.length_map _)).qs) ?_
    | refine zk rfl rfl rfl rfl (fun h=>?_) (fun h=>?_)
    | refine q_g rfl (fun S'=>(zJ (xs:=xs) hT rfl rfl rfl rfl rfl hlt rfl).qs) ?_
    | refine q_g rfl (fun S'=>(zJ (xs:=ys) hT rfl rfl rfl rfl rfl hlt2 rfl).qs) ?_)
   refine gz hT rfl ?_;conv=>whnf
   refine zC rfl (fun hne=>?_) (fun hne=>?_)
   ·refine gz hT rfl ?_;conv=>whnf
    refine zP rfl rfl rfl ?_
    rw [decide_eq_false fun e=>by subst e; simp at hne]
   ·simp only [Bool.not_eq_false',decide_eq_true_eq] at hne
    refine gz hT rfl ?_;conv=>whnf
    refine zB rfl (zU rfl rfl rfl (by omega)) ?_
    refine gz hT rfl ?_;conv=>whnf
    exact ⟨i+1,⟨hlt,take_same hlt hlt2 ht hne⟩,by omega,⟨lk rfl,lk rfl,lk rfl,trivial⟩,.nil⟩
  ·simp only [decide_eq_false_iff_not,Int.ofNat_lt] at hlt
   refine gz hT rfl ?_;conv=>whnf
   refine zP rfl rfl rfl ?_
   rw [decide_eq_true (take_all hlt h ht)]
end
end Go.Vw
namespace Go.Vw
open Go.RowKit Go.Am Go.Proofs
attribute [local irreducible] yE zv zq VD VDn VDq Ret
theorem Thread.unique {m:MModule} {f:Int} {a b a' b':List (List Int)} (h:Thread m f a b) (k:Thread m f a' b'):a=a'∧b=b':=by
 obtain ⟨y,hd,rfl,rfl⟩:=h
 obtain ⟨z,kd,rfl,rfl⟩:=k
 rw [hd.unique kd]
 exact ⟨rfl,rfl⟩
def FindR (m:MModule) (v:V):Prop:=∃ must may e,v = .tup [.agg (yY must may),.int .i64 e]∧((zO m=true∧Threads m m.threads must may∧e=0)∨(zO m=false∧must=[]∧may=[]∧e=70))
section
variable [Drw] (hT:TabOk tab Tryz.prog)
include hT
theorem findR (m:MModule) (hs:Small m):PureR Tryz.prog 82 [.agg (ze m)] (FindR m):=by
 refine (find hT m hs fun hr=>qV hr).mono fun v _ hv=>?_
 by_cases hr:zO m=true
 ·rw [if_pos hr] at hv
  obtain ⟨must,may,h1,h2⟩:=hv
  exact ⟨must,may,0,h2,.inl ⟨hr,h1,rfl⟩⟩
 ·rw [if_neg hr] at hv
  exact ⟨[],[],70,hv,.inr ⟨by simpa using hr,rfl,rfl,rfl⟩⟩
end
end Go.Vw
